/- Part of a proof: see the last text. -/
import Derived.Calls
import Derived.Orders
import Derived.Below
import Derived.Laws.CopyRow
import Derived.Laws.AppendOwn
import Derived.Lib.Strings
import Derived.IntWalk
import Derived.LoopN
import Derived.Laws.StructEq
import Derived.KernelRfl
set_option linter.all false
noncomputable section
open Array renaming all_eq_true_iff_forall_mem->blE,eq_empty_of_size_eq_zero->bnX,ext'->bjG,getD_eq_getD_getElem?->bjL,getElem?_eq_getElem->bkB,getElem?_eq_none->bmM,getElem?_eq_some_iff->aPB,getElem?_push->boL,getElem?_replicate->blN,getElem?_setIfInBounds_ne->bmE,getElem?_toList->biO,length_toList->biR,mapM_eq_mapM_toList->bpE,mem_append->blV,mem_toList_iff->bkZ,range->bpG,replicate->bkJ,toArray_toList->bkP,toList_append->bnB,toList_replicate->bmN
open Bool renaming and_eq_true->bhB,eq_iff_iff->bjA,false_eq_true->biF,false_or->boA,not_true->bpQ,or_eq_true->bqJ
open ByteArray renaming empty->gT,push->bsO
open ForInStep renaming yield->bsF
open Go renaming sizeOf->boU
open Go.Builtin renaming append_->bkX,firstCells->bjN,lenOf->bsY,len_->bmZ,max_->btH,min_->btI,zeroCells->biY
open Go.Call renaming operands->bqY
open Go.Conv renaming bytesToString->brE
open Go.Instr renaming box->bpV,build->bsC,buildSlice->bnY,checkKey->bsN,entryStore->brT,extract->bsW,fieldAt->bqW,fill->bqD,findKey->btA,findNow->blU,index->bkA,indexAt->bnE,keyThatStays->brD,loadAt->bnN,lookup->bnP,makeMap->btB,makeSlice->bsE,mapEntry->bqO,mapUpdate->bqI,sameBits->boX,sameNow->bsZ,slice->bqN,sliceAt->bmR,sliceBound->brS,sliceBounds->blC,storeAt->bsV,sureAddr->bkV
open Go.IntKind renaming i64->bmL
open Go.IntWalk renaming i64_in->bmW
open Go.Op renaming bytesLess->bqE,operands->biL,unary->btN
open Go.Oper renaming looksAt->bqF,wp->bnS
open Go.Question renaming appendCap->boW
open Go.Region renaming binds->bnQ,ready->bnR,wanted->bkG
open Go.Result renaming andThen_ok->biD
open Go.Sem renaming run_bind->biG,run_pure->bjJ
open Go.World renaming cell?->bjZ,cell?_of_block->bmB,setRow->btG
open Int renaming natCast_nonneg->brF,ofNat_le->brM
open List renaming all_cons->bmQ,all_eq_true->bjM,append_assoc->bjX,drop_nil->bqX,eq_nil_of_length_eq_zero->biJ,ext_getElem?->blO,foldl_cons->bsD,getD_eq_getElem?_getD->bjP,getElem?_append_left->bhD,getElem?_append_right->bjF,getElem?_concat_length->bjT,getElem?_drop->blL,getElem?_eq_getElem->aBD,getElem?_eq_none->bjE,getElem?_eq_none_iff->bnA,getElem?_eq_some_iff->aBC,getElem?_map->biH,getElem?_set->bpH,getElem?_set_ne->bjB,getElem?_set_self->biW,getElem?_take->bkY,getElem?_toArray->bkS,length_append->aWQ,length_cons->bhE,length_drop->bhI,length_take->biM,mapM_cons->bsM,mem_append->biI,mem_cons->bhJ,mem_cons_of_mem->biB,mem_cons_self->biK,mem_filter->bqK,mem_map->bkR,mem_of_getElem?->aWR,mem_of_mem_take->bjV,mem_range->bkI,mem_toArray->bpX,prefix_append->blW,prefix_refl->blK,range->bjD,rec->btO,replicate->bjS,set_append_right->blH,size_toArray->bjY,take_nil->bsX
open List.cons renaming inj->bqZ
open Nat renaming add_assoc->blB,add_mul->blG,add_zero->bjU,beq->biS,beq_refl->blD,ble->bmY,ble_eq_true_of_le->blI,eq_of_beq_eq_true->bjK,le_of_ble_eq_true->bhG,le_of_lt->boP,le_refl->aWP,le_succ_of_le->brK,le_trans->biP,lt_of_lt_of_le->beL,lt_or_ge->blM,lt_succ_self->bjQ,lt_trichotomy->brJ,mul_le_mul_right->bkQ,ne_of_beq_eq_false->blR,sub_zero->bnO,testBit_or->bsP,zero_add->bhC,zero_le->bjI
open Option renaming bind_some->Uu,getD_some->bmH,isSome_iff_exists->bnD,map_some->bhK,rec->bsQ
open Option.some renaming inj->biA,injEq->atS
open UInt8 renaming ofNat->bqP
namespace AI
open Go Go.RowKit
inductive Own where
 |full
 |row (r sz:Nat)
 |lost
 |nil
 |nn
 deriving DecidableEq,Inhabited
inductive AV where
 |sc (v:Value)
 |agg (cs:List AV)
 |Gx (vs:List AV)
 |sl (own:Own) (n:Nat) (cs:List AV)
 |Im (id off n:Nat)
 |el (cs:List AV)
 |ptr (id off:Nat)
 |fn (f:Fn) (first caps:List AV)
 |ifc (t:TypeId) (v:AV)
 |mp (id:Nat)
 |any
 |raw (A:Option Addr) (n cap:Nat)
 deriving Inhabited
def scalar:Value->Bool
 |.bool _ | .int _ _ | .string _ | .nilIface | .nilFunc | .pointer none | .map none=>true
 |.tuple vs=>vs.size == 0
 |_=>false
def cV:Value->Bool
 |.bool _=>false
 |_=>true
inductive Rw where
 |gone
 |new
 |Sk (g n cap sz:Nat)
def L6(x:Rw):Rw->Prop
 |.gone=>True
 |.new=>x=.new
 |.Sk g n cap sz=>x=.Sk g n cap sz\/x=.new\/∃g0 n0 PT kC,x=.Sk g0 n0 PT kC/\n0 < n
def L6.refl(x:Rw):L6 x x:=by cases x<;>simp[L6]
def L6.trans{x y z:Rw}(h:L6 x y)(k:L6 y z):L6 x z:=by
 cases z with
 |gone=>trivial
 |new=>simp only[L6] at k;subst k;exact h
 |Sk g n cap sz=>
  simp only[L6] at k;rcases k with rfl | rfl | ⟨g0,n0,PT,kC,rfl,hlt⟩
  exact h;simp only[L6] at h;exact .inr (.inl h);simp only[L6] at h;rcases h with rfl | rfl | ⟨g1,n1,aUU,sz1,rfl,bhN⟩
  exact .inr (.inr ⟨_,_,_,_,rfl,hlt⟩);exact .inr (.inl rfl);exact .inr (.inr ⟨_,_,_,_,rfl,by omega⟩)
structure Cx where
 base:Nat
 Ce:List (Option Nat)
 rows:List Rw
 bad:Nat->Nat->Prop
def Cx.jX(c:Cx)(g i:Nat):Prop:=some g∈c.Ce\/(∃r n cap sz:Nat,c.rows[r]?=some (.Sk g n cap sz)/\n*sz<=i/\i < cap*sz)\/c.bad g i
def MD(c:Cx)(w:World)(g i:Nat)(v:Value):Prop:=g < w.heap.size/\¬c.jX g i/\w.cell? ⟨g,i,none⟩=some v
def afL(c:Cx)(own:Own)(g o n cap len:Nat):Prop:=match own with|.full=>cap=n|.row r sz=>o=0/\len=n*sz/\r < c.rows.length/\c.rows[r]?≠some .new/\∀g' n' cap' OI,c.rows[r]?=some (.Sk g' n' cap' OI)->n<=n'/\(n'=n->g'=g/\cap'=cap/\OI=sz)|.lost=>True|.nil=>False|.nn=>True
def abM(c:Cx)(own:Own)(A:Option Addr)(cap:Nat):Prop:=match own with|.full=>cap=0|.row r _=>cap=0/\r < c.rows.length|.lost=>True|.nil=>A.isNone=true|.nn=>A.isNone=false
mutual
inductive Rp(c:Cx)(w:World):AV->Value->Prop where
 |sc {v:Value} (h:scalar v=true):Rp c w (.sc v) v
 |agg {cs:List AV}{vs:List Value} (h:Cw c w cs vs):Rp c w (.agg cs) (.agg vs.toArray)
 |Gx {cs:List AV}{vs:List Value} (h:Cw c w cs vs):Rp c w (.Gx cs) (.tuple vs.toArray)
 |sl0 {own:Own}{A:Option Addr}{cap:Nat} (h:abM c own A cap):Rp c w (.sl own 0 []) (.slice A 0 cap)
 |Lt {own:Own}{n cap g o:Nat}{cs:List AV} (hn:n<=cap) (h:A0 c w g o cs) (ho:afL c own g o n cap cs.length):Rp c w (.sl own n cs) (.slice (some ⟨g,o,none⟩) n cap)
 |Im {id off n g cap:Nat} (hn:n<=cap) (h:c.Ce[id]?=some (some g)):Rp c w (.Im id off n) (.slice (some ⟨g,off,none⟩) n cap)
 |el {cs:List AV}{g o:Nat} (h:A0 c w g o cs):Rp c w (.el cs) (.pointer (some ⟨g,o,none⟩))
 |ptr {id off g:Nat} (h:c.Ce[id]?=some (some g)):Rp c w (.ptr id off) (.pointer (some ⟨g,off,none⟩))
 |fn {f:Fn}{first caps:List AV}{us vs:List Value} (h1:Cw c w first us) (h2:Cw c w caps vs):Rp c w (.fn f first caps) (.func f us.toArray vs.toArray)
 |ifc {t:TypeId}{a:AV}{v:Value} (h:Rp c w a v):Rp c w (.ifc t a) (.iface t v)
 |mp {id g:Nat} (h:c.Ce[id]?=some (some g)):Rp c w (.mp id) (.map (some g))
 |any {v:Value} (h:cV v=true):Rp c w .any v
 |raw {A:Option Addr}{n cap:Nat}:Rp c w (.raw A n cap) (.slice A n cap)
inductive Cw(c:Cx)(w:World):List AV->List Value->Prop where
 |nil:Cw c w [] []
 |cons {a:AV}{v:Value}{as:List AV}{vs:List Value} (h:Rp c w a v) (t:Cw c w as vs):Cw c w (a::as) (v::vs)
inductive A0(c:Cx)(w:World):Nat->Nat->List AV->Prop where
 |nil {g o:Nat}:A0 c w g o []
 |cons {g o:Nat}{a:AV}{v:Value}{as:List AV} (hv:MD c w g o v) (h:Rp c w a v) (t:A0 c w g (o+1) as):A0 c w g o (a::as)
end
structure Ext(c:Cx)(w:World)(c':Cx)(w':World):Prop where
 Ce:c.Ce <+: c'.Ce
 Ia:c.rows.length<=c'.rows.length
 rows:∀(r:Nat) y,r < c.rows.length->c'.rows[r]?=some y->∃x,c.rows[r]?=some x/\L6 x y
 cH:∀g i v,MD c w g i v->MD c' w' g i v
 below:Below c.base w w'
 base:c'.base=c.base
 bad:c'.bad=c.bad
 Yn:∀g,some g∈c'.Ce->some g∈c.Ce\/w.heap.size<=g
 Yx:∀(r:Nat) g n cap sz,c'.rows[r]?=some (.Sk g n cap sz)->(∃(r0 n0 PT kC:Nat),c.rows[r0]?=some (.Sk g n0 PT kC))\/w.heap.size<=g
 GY:∀k,k < w.heap.size->some k∉c.Ce->(∀(r:Nat) n cap sz,c.rows[r]?≠some (.Sk k n cap sz))->w'.heap[k]?=w.heap[k]?
def Ext.refl(c:Cx)(w:World):Ext c w c w:=⟨blK _,aWP _,λ_ y _ h=>⟨y,h,L6.refl y⟩,λ_ _ _ h=>h,Below.refl _ _,rfl,rfl,λ_ h=>.inl h,λr _ n cap sz h=>.inl ⟨r,n,cap,sz,h⟩,λ_ _ _ _=>rfl⟩
def Ext.trans{c1 c2 c3:Cx}{w1 w2 w3:World}(h:Ext c1 w1 c2 w2)(k:Ext c2 w2 c3 w3):Ext c1 w1 c3 w3 :=
 ⟨h.Ce.trans k.Ce,biP h.Ia k.Ia,λr z hr hz=>by
  obtain⟨y,hy,l2⟩:=k.rows r z (beL hr h.Ia) hz;obtain⟨x,hx,l1⟩:=h.rows r y hr hy;exact⟨x,hx,l1.trans l2⟩,λg i v hv=>k.cH g i v (h.cH g i v hv),h.below.trans (by have:=k.below;rw[h.base] at this;exact this),k.base.trans h.base,k.bad.trans h.bad,
  λg hg=>by
   rcases k.Yn g hg with h1 | h1
   exact h.Yn g h1;exact .inr (biP h.below.size h1),
  λr g n cap sz hr=>by
   rcases k.Yx r g n cap sz hr with ⟨r0,n0,PT,kC,h1⟩ | h1
   exact h.Yx r0 g n0 PT kC h1;exact .inr (biP h.below.size h1),
  λq hq hp hr=>by
   rw[k.GY q (beL hq h.below.size) (λhm=>?_) (λr n cap sz hm=>?_),h.GY q hq hp hr];rcases h.Yn q hm with h1 | h1
   exact hp h1;omega;rcases h.Yx r q n cap sz hm with ⟨r0,n0,PT,kC,h1⟩ | h1
   exact hr r0 n0 PT kC h1;omega⟩
def Ext.get{c:Cx}{w:World}{c':Cx}{w':World}(h:Ext c w c' w'){id g:Nat}(e:c.Ce[id]?=some (some g)):c'.Ce[id]?=some (some g):=by obtain⟨t,ht⟩:=h.Ce;rw[<- ht,bhD (aBC.1 e).1];exact e
structure Mon(c:Cx)(w:World)(c':Cx)(w':World):Prop where
 get:∀(id g:Nat),c.Ce[id]?=some (some g)->c'.Ce[id]?=some (some g)
 Ia:c.rows.length<=c'.rows.length
 rows:∀(r:Nat) y,r < c.rows.length->c'.rows[r]?=some y->∃x,c.rows[r]?=some x/\L6 x y
 cH:∀g i v,MD c w g i v->MD c' w' g i v
def Ext.mon{c:Cx}{w:World}{c':Cx}{w':World}(h:Ext c w c' w'):Mon c w c' w':=⟨λ_ _ e=>h.get e,h.Ia,h.rows,h.cH⟩
def afL.DL{c:Cx}{w:World}{c':Cx}{w':World}(h:Mon c w c' w'){own:Own}{g o n cap len:Nat}(k:afL c own g o n cap len):afL c' own g o n cap len:=by
 cases own with
 |nil=>exact k
 |nn=>exact k
 |full=>exact k
 |lost=>trivial
 |row r sz=>
  obtain⟨k1,k2,k3,k4,k5⟩:=k;refine⟨k1,k2,beL k3 h.Ia,λe=>?_,λg' n' cap' OI e=>?_⟩;obtain⟨x,hx,hle⟩:=h.rows r _ k3 e;simp only[L6] at hle;subst hle;exact k4 hx;obtain⟨x,hx,hle⟩:=h.rows r _ k3 e;simp only[L6] at hle;rcases hle with rfl | rfl | ⟨g0,n0,PT,kC,rfl,hlt⟩
  exact k5 _ _ _ _ hx;exact absurd hx k4;have:=(k5 _ _ _ _ hx).1;exact⟨by omega,λe=>by omega⟩
def abM.DL{c:Cx}{w:World}{c':Cx}{w':World}(h:Mon c w c' w'){own:Own}{A:Option Addr}{cap:Nat}(k:abM c own A cap):abM c' own A cap:=by cases own with|nil=>exact k|nn=>exact k|full=>exact k|lost=>trivial|row r sz=>exact⟨k.1,beL k.2 h.Ia⟩
def abM.re{c:Cx}{own:Own}{A B:Option Addr}{cap:Nat}(h:abM c own A cap)(hb:B.isNone=A.isNone):abM c own B cap:=by cases own with|nil=>exact hb.trans h|nn=>exact hb.trans h|full=>exact h|lost=>trivial|row r sz=>exact h
mutual
def Rp.DL{c:Cx}{w:World}{c':Cx}{w':World}(h:Mon c w c' w'){a:AV}{v:Value}(k:Rp c w a v):Rp c' w' a v:=by cases k with|sc h1=>exact .sc h1|agg h1=>exact .agg (Cw.DL h h1)|Gx h1=>exact .Gx (Cw.DL h h1)|sl0 h1=>exact .sl0 (h1.DL h)|Lt hn h1 ho=>exact .Lt hn (A0.DL h h1) (ho.DL h)|Im hn h1=>exact .Im hn (h.get _ _ h1)|el h1=>exact .el (A0.DL h h1)|ptr h1=>exact .ptr (h.get _ _ h1)|fn h1 h2=>exact .fn (Cw.DL h h1) (Cw.DL h h2)|ifc h1=>exact .ifc (Rp.DL h h1)|mp h1=>exact .mp (h.get _ _ h1)|any h1=>exact .any h1|raw=>exact .raw
def Cw.DL{c:Cx}{w:World}{c':Cx}{w':World}(h:Mon c w c' w'){a:List AV}{v:List Value}(k:Cw c w a v):Cw c' w' a v:=by cases k with|nil=>exact .nil|cons h1 t=>exact .cons (Rp.DL h h1) (Cw.DL h t)
def A0.DL{c:Cx}{w:World}{c':Cx}{w':World}(h:Mon c w c' w'){g o:Nat}{a:List AV}(k:A0 c w g o a):A0 c' w' g o a:=by cases k with|nil=>exact .nil|cons hv h1 t=>exact .cons (h.cH _ _ _ hv) (Rp.DL h h1) (A0.DL h t)
end
def Rp.mono{c:Cx}{w:World}{c':Cx}{w':World}(h:Ext c w c' w'){a:AV}{v:Value}(k:Rp c w a v):Rp c' w' a v:=k.DL h.mon
def Cw.mono{c:Cx}{w:World}{c':Cx}{w':World}(h:Ext c w c' w'){a:List AV}{v:List Value}(k:Cw c w a v):Cw c' w' a v:=k.DL h.mon
def A0.mono{c:Cx}{w:World}{c':Cx}{w':World}(h:Ext c w c' w'){g o:Nat}{a:List AV}(k:A0 c w g o a):A0 c' w' g o a:=k.DL h.mon
section lists
variable {c:Cx}{w:World}
def Cw.len{as:List AV}{vs:List Value}(h:Cw c w as vs):vs.length=as.length:=by induction as generalizing vs with|nil=>cases h;rfl|cons a as ih=>cases h with | cons _ t=>simp[ih t]
def Cw.get{as:List AV}{vs:List Value}(h:Cw c w as vs){i:Nat}{a:AV}(e:as[i]?=some a):∃v,vs[i]?=some v/\Rp c w a v:=by
 induction as generalizing vs i with
 |nil=>simp at e
 |cons b as ih=>
  cases h with
  |cons h1 t=>
   cases i with|zero=>simp at e;subst e;exact⟨_,rfl,h1⟩|succ i=>simp at e ⊢;exact ih t e
def Cw.auO{as:List AV}{vs:List Value}(hl:vs.length=as.length)(h:∀(i:Nat) a v,as[i]?=some a->vs[i]?=some v->Rp c w a v):Cw c w as vs:=by
 induction as generalizing vs with
 |nil=>cases vs with | nil=>exact .nil | cons=>simp at hl
 |cons a as ih=>
  cases vs with|nil=>simp at hl|cons v vs=>exact .cons (h 0 a v rfl rfl) (ih (by simpa using hl) (λi a v e1 e2=>h (i+1) a v (by simpa using e1) (by simpa using e2)))
def Cw.append{as bs:List AV}{us vs:List Value}(h:Cw c w as us)(k:Cw c w bs vs):Cw c w (as++bs) (us++vs):=by induction as generalizing us with|nil=>cases h;exact k|cons a as ih=>cases h with | cons h1 t=>exact .cons h1 (ih t)
def Cw.set{as:List AV}{vs:List Value}(h:Cw c w as vs){a:AV}{v:Value}(k:Rp c w a v)(i:Nat):Cw c w (as.set i a) (vs.set i v):=by
 induction as generalizing vs i with
 |nil=>cases h;exact .nil
 |cons b as ih=>
  cases h with
  |cons h1 t=>
   cases i with|zero=>exact .cons k t|succ i=>exact .cons h1 (ih t i)
def Cw.drop{as:List AV}{vs:List Value}(h:Cw c w as vs)(i:Nat):Cw c w (as.drop i) (vs.drop i):=by
 induction as generalizing vs i with
 |nil=>cases h;simpa using Cw.nil
 |cons b as ih=>
  cases h with
  |cons h1 t=>
   cases i with|zero=>exact .cons h1 t|succ i=>exact ih t i
def Cw.take{as:List AV}{vs:List Value}(h:Cw c w as vs)(i:Nat):Cw c w (as.take i) (vs.take i):=by
 induction as generalizing vs i with
 |nil=>cases h;simpa using Cw.nil
 |cons b as ih=>
  cases h with
  |cons h1 t=>
   cases i with|zero=>exact .nil|succ i=>exact .cons h1 (ih t i)
def Cw.replicate{a:AV}{v:Value}(h:Rp c w a v)(n:Nat):Cw c w (bjS n a) (bjS n v):=by induction n with|zero=>exact .nil|succ n ih=>exact .cons h ih
def A0.get{as:List AV}{g o:Nat}(h:A0 c w g o as){i:Nat}{a:AV}(e:as[i]?=some a):∃v,MD c w g (o+i) v/\Rp c w a v:=by
 induction as generalizing o i with
 |nil=>simp at e
 |cons b as ih=>
  cases h with
  |cons hv h1 t=>
   cases i with
   |zero=>simp at e;subst e;exact⟨_,hv,h1⟩
   |succ i=>
    simp at e;have:=ih t e;rwa[show o+1+i=o+(i+1) from by omega] at this
def A0.drop{as:List AV}{g o:Nat}(h:A0 c w g o as)(i:Nat):A0 c w g (o+i) (as.drop i):=by
 induction as generalizing o i with
 |nil=>simpa using A0.nil
 |cons b as ih=>
  cases i with
  |zero=>exact h
  |succ i=>
   cases h with
   |cons hv h1 t=>
    have:=ih t i;rw[show o+1+i=o+(i+1) from by omega] at this;exact this
def A0.take{as:List AV}{g o:Nat}(h:A0 c w g o as)(i:Nat):A0 c w g o (as.take i):=by
 induction as generalizing o i with
 |nil=>simpa using A0.nil
 |cons b as ih=>
  cases i with|zero=>exact .nil|succ i=>cases h with | cons hv h1 t=>exact .cons hv h1 (ih t i)
def A0.vals{as:List AV}{g o:Nat}(h:A0 c w g o as):∃vs,Cw c w as vs/\∀(i:Nat) v,vs[i]?=some v->MD c w g (o+i) v:=by
 induction as generalizing o with
 |nil=>exact⟨[],.nil,λi v e=>by simp at e⟩
 |cons b as ih=>
  cases h with
  |cons hv h1 t=>
   obtain⟨vs,hr,H8⟩:=ih t;refine⟨_::vs,.cons h1 hr,λi v e=>?_⟩;cases i with
   |zero=>simp at e;subst e;exact hv
   |succ i=>
    have:=H8 i v (by simpa using e)
    rwa[show o+1+i=o+(i+1) from by omega] at this
def A0.Tm{as:List AV}{vs:List Value}{g o:Nat}(h:Cw c w as vs)(hv:∀(i:Nat) v,vs[i]?=some v->MD c w g (o+i) v):A0 c w g o as:=by
 induction as generalizing vs o with
 |nil=>exact .nil
 |cons b as ih=>
  cases h with
  |cons h1 t=>
   refine .cons (hv 0 _ rfl) h1 (ih t (λi v e=>?_));have:=hv (i+1) v (by simpa using e)
   rwa[show o+(i+1)=o+1+i from by omega] at this
end lists
end AI
namespace AI
open Go Go.RowKit
inductive Ay where
 |cells (cs:List AV)
 |map (es:List (Value×AV×Nat)) (clock:Nat)
 |bD (T:TypeId) (id:Nat) (cs:List AV)
structure AS where
 h:List (Nat×Ay)
 nx:Nat
 F:List (Nat×Nat)
 nr:Nat
def look(id:Nat):List (Nat×Ay)->Option Ay
 |[]=>none
 |e::l=>match biS e.1 id with|true=>some e.2|false=>look id l
def T9(id:Nat)(b:Ay):List (Nat×Ay)->List (Nat×Ay)
 |[]=>[]
 |e::l=>match biS e.1 id with|true=>(id,b)::l|false=>e::T9 id b l
def PX(n:Nat):List (Nat×Ay)->List (Nat×Ay)
 |[]=>[]
 |e::l=>match bmY n e.1 with|true=>PX n l|false=>e::l
def AS.get(s:AS)(id:Nat):Option Ay:=look id s.h
def AS.new(s:AS)(b:Ay):AS:=⟨(s.nx,b)::s.h,s.nx+1,s.F,s.nr⟩
def AS.put(s:AS)(id:Nat)(b:Ay):AS:=⟨T9 id b s.h,s.nx,s.F,s.nr⟩
def AS.cut(s:AS)(n:Nat):AS:=⟨PX n s.h,s.nx,s.F,s.nr⟩
def Ld:List (Nat×Ay)->Nat->Prop
 |[],_=>True
 |e::l,n=>e.1 < n/\Ld l e.1
def beq_true{a b:Nat}(h:biS a b=true):a=b:=bjK h
def beq_false{a b:Nat}(h:biS a b=false):a≠b:=blR h
def Yc{l:List (Nat×Ay)}{n id:Nat}{b:Ay}(hd:Ld l n)(h:look id l=some b):id < n:=by
 induction l generalizing n with
 |nil=>cases h
 |cons e l ih=>
  simp only[look] at h;split at h;rename_i hb;rw[<- beq_true hb];exact hd.1;have:=ih hd.2 h;have:=hd.1;omega
def Ld.mono{l:List (Nat×Ay)}{n m:Nat}(h:Ld l n)(hm:n<=m):Ld l m:=by cases l with|nil=>trivial|cons e l=>exact⟨beL h.1 hm,h.2⟩
def acF{l:List (Nat×Ay)}{n k:Nat}(h:Ld l n):Ld (PX k l) n:=by
 induction l generalizing n with
 |nil=>trivial
 |cons e l ih=>
  simp only[PX];split;exact ih (h.2.mono (boP h.1));exact h
def WJ{l:List (Nat×Ay)}{n k id:Nat}{b:Ay}(hd:Ld l n)(h:look id (PX k l)=some b):look id l=some b:=by
 induction l generalizing n with
 |nil=>exact h
 |cons e l ih=>
  simp only[PX] at h;split at h;have h1:=ih hd.2 h;have h2:=Yc hd.2 h1;simp only[look];split;rename_i hb;have:=beq_true hb;omega;exact h1;exact h
def kK{l:List (Nat×Ay)}{n id:Nat}{b:Ay}(h:Ld l n):Ld (T9 id b l) n:=by
 induction l generalizing n with
 |nil=>trivial
 |cons e l ih=>
  simp only[T9];split;rename_i hb;have:=beq_true hb;subst this;exact h;exact⟨h.1,ih h.2⟩
def kL{l:List (Nat×Ay)}{id T5:Nat}{b b':Ay}(h:look T5 (T9 id b l)=some b'):(T5=id/\b'=b)\/(T5≠id/\look T5 l=some b'):=by
 induction l with
 |nil=>cases h
 |cons e l ih=>
  simp only[T9] at h;split at h;rename_i hb;have bG:=beq_true hb;simp only[look] at h ⊢;split at h;rename_i h1;cases h;exact .inl ⟨(beq_true h1).symm,rfl⟩;rename_i h1;have hne:=beq_false h1;refine .inr ⟨λe=>hne e.symm,?_⟩;split;rename_i h2;exact absurd (bG.symm.trans (beq_true h2)) hne;exact h;rename_i hb;have bG:=beq_false hb;simp only[look] at h ⊢;split at h;rename_i h1;cases h;refine .inr ⟨λe'=>bG ((beq_true h1).trans e'),rfl⟩;rename_i h1;rcases ih h with h2 | ⟨h2,h3⟩
  exact .inl h2;exact .inr ⟨h2,h3⟩
def DV(r:Nat):List (Nat×Nat)->Option Nat
 |[]=>none
 |x::l=>match biS x.1 r with|true=>some x.2|false=>DV r l
def amR(r n:Nat):List (Nat×Nat)->List (Nat×Nat)
 |[]=>[]
 |x::l=>match biS x.1 r with|true=>(r,n)::l|false=>x::amR r n l
def oT{r n r' k:Nat}{l:List (Nat×Nat)}(h:DV r' (amR r n l)=some k):(r'=r/\k=n/\(DV r l).isSome=true)\/(r'≠r/\DV r' l=some k):=by
 induction l with
 |nil=>cases h
 |cons x l ih=>
  simp only[amR] at h;split at h;rename_i hb;have hx:=beq_true hb;simp only[DV] at h ⊢;split at h;rename_i h1;cases h;refine .inl ⟨(beq_true h1).symm,rfl,?_⟩;rw[hb];rfl;rename_i h1;have hne:=beq_false h1;refine .inr ⟨λe=>hne e.symm,?_⟩;split;rename_i h2;exact absurd (hx.symm.trans (beq_true h2)) hne;exact h;rename_i hb;have hx:=beq_false hb;simp only[DV] at h ⊢;split at h;rename_i h1;cases h;exact .inr ⟨λe=>hx ((beq_true h1).trans e),rfl⟩;rename_i h1;rcases ih h with ⟨h2,h3,h4⟩ | ⟨h2,h3⟩
  refine .inl ⟨h2,h3,?_⟩;rw[hb];exact h4;exact .inr ⟨h2,h3⟩
inductive Nc(c:Cx)(w:World):List (Value×AV×Nat)->List MapEntry->Prop where
 |nil:Nc c w [] []
 |cons {k:Value}{a:AV}{v:Value}{b:Nat}{es:List (Value×AV×Nat)}{fs:List MapEntry} (h:Rp c w a v) (t:Nc c w es fs):Nc c w ((k,a,b)::es) (⟨k,v,b⟩::fs)
inductive Fc(c:Cx)(w:World):Ay->Obj->Prop where
 |FA {cs:List AV}{vs:List Value}{T:TypeId} (ext:List Value) (h:Cw c w cs vs):Fc c w (.cells cs) (.cells (vs++ext).toArray T (0,0))
 |map {es:List (Value×AV×Nat)}{fs:List MapEntry}{clock:Nat} (h:Nc c w es fs):Fc c w (.map es clock) (.map fs.toArray clock)
 |bD {cs:List AV}{vs:List Value}{T:TypeId}{id:Nat}{p:Value} (hp:p=.pointer none\/Rp c w (.ptr id 0) p) (h:Cw c w cs vs):Fc c w (.bD T id cs) (.cells (p::vs).toArray T (0,0))
def Fc.cells{c:Cx}{w:World}{cs:List AV}{vs:List Value}{T:TypeId}(h:Cw c w cs vs):Fc c w (.cells cs) (.cells vs.toArray T (0,0)):=by have:=Fc.FA (T:=T) [] h;rwa[List.append_nil] at this
def Nc.DL{c:Cx}{w:World}{c':Cx}{w':World}(h:Mon c w c' w'){es:List (Value×AV×Nat)}{fs:List MapEntry}(k:Nc c w es fs):Nc c' w' es fs:=by induction k with|nil=>exact .nil|cons h1 _ ih=>exact .cons (h1.DL h) ih
def Fc.DL{c:Cx}{w:World}{c':Cx}{w':World}(h:Mon c w c' w'){b:Ay}{o:Obj}(k:Fc c w b o):Fc c' w' b o:=by cases k with|FA ext h1=>exact .FA ext (h1.DL h)|map h1=>exact .map (h1.DL h)|bD hp h1=>exact .bD (hp.imp id λk=>k.DL h) (h1.DL h)
def Fc.mono{c:Cx}{w:World}{c':Cx}{w':World}(h:Ext c w c' w'){b:Ay}{o:Obj}(k:Fc c w b o):Fc c' w' b o:=k.DL h.mon
abbrev AN:=Nat->Option (List AV)
def Wz(G:AN)(c:Cx)(w:World):Prop:=∀g cs,G g=some cs->(some g∉c.Ce/\∀(r:Nat) n cap sz,c.rows[r]?≠some (.Sk g n cap sz))/\∃vs T f,w.heap[g]?=some (.cells vs T f)/\vs.size=cs.length
def Wz.mono{G:AN}{c c':Cx}{w w':World}(e:Ext c w c' w')(h:Wz G c w):Wz G c' w':=by
 intro g cs hg;obtain⟨⟨h1,h2⟩,vs,T,f,h3,h4⟩:=h g cs hg;have hlt:=(aPB.1 h3).1;refine⟨⟨λhm=>?_,λr n cap sz hr=>?_⟩,vs,T,f,?_,h4⟩;rcases e.Yn g hm with h | h
 exact h1 h;omega;rcases e.Yx r g n cap sz hr with ⟨r0,n0,PT,kC,h⟩ | h
 exact h2 _ _ _ _ h;omega;rw[e.GY g hlt h1 h2];exact h3
def Wz.sub{G:AN}{c c':Cx}{w:World}(h:Wz G c w)(hp:∀g,some g∈c'.Ce->some g∈c.Ce)(hr:∀(r:Nat) g n cap sz,c'.rows[r]?=some (.Sk g n cap sz)->∃(r0 n0 PT kC:Nat),c.rows[r0]?=some (.Sk g n0 PT kC)):Wz G c' w:=by intro g cs hg;obtain⟨⟨h1,h2⟩,h3⟩:=h g cs hg;exact⟨⟨λhm=>h1 (hp g hm),λr n cap sz e=>by obtain⟨r0,n0,PT,kC,e0⟩:=hr r g n cap sz e;exact h2 _ _ _ _ e0⟩,h3⟩
def Wz.aQC{G:AN}{c:Cx}{w:World}(h:Wz G c w){b:Nat}{x:Nat->Nat->Prop}:Wz G ⟨b,[],[],x⟩ w:=h.sub (λg hm=>by cases hm) (λr g n cap sz e=>by simp at e)
def Wz.none{c:Cx}{w:World}:Wz (λ_=>none) c w:=λg cs hg=>by cases hg
structure St(G:AN)(c:Cx)(w:World)(s:AS):Prop where
 len:s.nx=c.Ce.length
 desc:Ld s.h s.nx
 nodup:∀(i j g:Nat),c.Ce[i]?=some (some g)->c.Ce[j]?=some (some g)->i=j
 low:∀g,some g∈c.Ce->c.base<=g
 box:∀(id:Nat) g b,c.Ce[id]?=some (some g)->s.get id=some b->∃o,w.heap[g]?=some o/\Fc c w b o
 Ia:s.nr=c.rows.length
 row:∀(r:Nat) g n cap sz,c.rows[r]?=some (.Sk g n cap sz)->(∀i,¬c.bad g i)/\c.base<=g/\some g∉c.Ce/\n<=cap/\∃vs T,w.heap[g]?=some (.cells vs T (0,0))/\vs.size=cap*sz
 IZ:∀(r n:Nat),DV r s.F=some n->(c.rows[r]?=some .new/\n=0)\/∃g cap sz,c.rows[r]?=some (.Sk g n cap sz)
 NA:∀g,some g∈c.Ce->g < w.heap.size
 Ng:∀g i,c.bad g i->g < w.heap.size
 Ie:∀(r r':Nat) g n cap sz n' cap' OI,c.rows[r]?=some (.Sk g n cap sz)->c.rows[r']?=some (.Sk g n' cap' OI)->r=r'
 Nh:∀g cs,G g=some cs->A0 c w g 0 cs
 Sa:c.base<=w.heap.size
 ON:Wz G c w
structure Ut(w w':World)(K:Nat->Prop):Prop where
 os:w'.os=w.os
 tape:w'.tape=w.tape
 output:w'.output=w.output
 size:w.heap.size<=w'.heap.size
 block:∀k,k < w.heap.size->¬K k->w'.heap[k]?=w.heap[k]?
def Ut.cell{w w':World}{K:Nat->Prop}(h:Ut w w' K){g i:Nat}(hg:g < w.heap.size)(hk:¬K g):w'.cell? ⟨g,i,none⟩=w.cell? ⟨g,i,none⟩ :=
 bmB (w:=w) (h.block g hg hk)
def Ut.below{w w':World}{K:Nat->Prop}(h:Ut w w' K){B:Nat}(hB:B<=w.heap.size)(hK:∀k,K k->B<=k):Below B w w' :=
 ⟨h.os,h.tape,h.output,h.size,λk hk=>h.block k (by omega) (λe=>by have:=hK k e;omega)⟩
def Wz.chg{G:AN}{c:Cx}{w w':World}(h:Wz G c w)(k:Ut w w' (λ_=>False)):Wz G c w':=by intro g cs hg;obtain⟨h1,vs,T,f,h3,h4⟩:=h g cs hg;exact⟨h1,vs,T,f,by rw[k.block g (aPB.1 h3).1 not_false];exact h3,h4⟩
def alW{l:List Nat}(h:l.Nodup){i j g:Nat}(hi:l[i]?=some g)(hj:l[j]?=some g):i=j:=by
 obtain⟨li,ei⟩:=aBC.1 hi;obtain⟨lj,ej⟩:=aBC.1 hj;have hp:=List.pairwise_iff_getElem.1 h;rcases brJ i j with hlt | he | hlt
 exact absurd (ei.trans ej.symm) (hp i j li lj hlt);exact he;exact absurd (ej.trans ei.symm) (hp j i lj li hlt)
section
variable {G:AN}{c:Cx}{w:World}{s:AS}
def St.OY(h:St G c w s){g:Nat}(hg:some g∈c.Ce):g < w.heap.size:=h.NA g hg
def St.NE(h:St G c w s){r g n cap sz:Nat}(hr:c.rows[r]?=some (.Sk g n cap sz)):g < w.heap.size:=by obtain⟨_,_,_,_,vs,T,ho,_⟩:=h.row r g n cap sz hr;exact(aPB.1 ho).1
def St.Xn(h:St G c w s){g i:Nat}(hs:c.jX g i):g < w.heap.size:=by
 rcases hs with hs | ⟨r,n,cap,sz,hr,_⟩ | hs
 exact h.OY hs;exact h.NE hr;exact h.Ng g i hs
def St.same(h:St G c w s){w':World}(k:Ut w w' (λ_=>False)):Ext c w c w'/\St G c w' s:=by have e:Ext c w c w':=⟨blK _,aWP _,λ_ y _ h=>⟨y,h,L6.refl y⟩,λg i v hv=>⟨beL hv.1 k.size,hv.2.1,by rw[k.cell hv.1 id];exact hv.2.2⟩,k.below h.Sa (λ_ h=>h.elim),rfl,rfl,λ_ h=>.inl h,λr _ n cap sz h=>.inl ⟨r,n,cap,sz,h⟩,λq hq _ _=>k.block q hq not_false⟩;refine⟨e,⟨h.len,h.desc,h.nodup,h.low,λid g b h1 h2=>?_,h.Ia,λr g n cap sz hr=>?_,h.IZ,λg hg=>beL (h.NA g hg) k.size,λg i hb=>beL (h.Ng g i hb) k.size,h.Ie,λg cs hg=>(h.Nh g cs hg).mono e,biP h.Sa k.size,h.ON.mono e⟩⟩;obtain⟨o,ho,hb⟩:=h.box id g b h1 h2;exact⟨o,by rw[k.block g (aPB.1 ho).1 not_false];exact ho,hb.mono e⟩;obtain⟨L7,h2,h3,h4,vs,T,ho,h5⟩:=h.row r g n cap sz hr;exact⟨L7,h2,h3,h4,vs,T,by rw[k.block g (aPB.1 ho).1 not_false];exact ho,h5⟩
def PU(w:World)(o:Obj):Ut w { w with heap:=w.heap.push o } (λ_=>False) :=
 ⟨rfl,rfl,rfl,by simp,λk hk _=>by simp[boL];intro h;omega⟩
def vU(w:World):Ut w { w with drawn:=w.drawn+1 } (λ_=>False):=⟨rfl,rfl,rfl,aWP _,λ_ _ _=>rfl⟩
def yP(w:World)(o:Obj):({ w with heap:=w.heap.push o }:World).heap[w.heap.size]?=some o:=by simp
def St.aGG(h:St G c w s)(vs:List Value)(T:TypeId){i:Nat}{v:Value}(hv:vs[i]?=some v):MD c { w with heap:=w.heap.push (.cells vs.toArray T) } w.heap.size i v:=by refine⟨by simp,λhs=>?_,?_⟩;have:=h.Xn hs;omega;simp[bjZ,hv]
def St.new(h:St G c w s){b:Ay}{o:Obj}(hb:Fc c w b o) :
   Ext c w { c with Ce:=c.Ce++[some w.heap.size] } { w with heap:=w.heap.push o }/\St G { c with Ce:=c.Ce++[some w.heap.size] } { w with heap:=w.heap.push o } (s.new b):=by
 have k:=PU w o
 have e:Ext c w { c with Ce:=c.Ce++[some w.heap.size] } { w with heap:=w.heap.push o }:=by
  refine⟨blW _ _,aWP _,λ_ y _ h=>⟨y,h,L6.refl y⟩,λg i v hv=>⟨beL hv.1 k.size,λhs=>?_,by rw[k.cell hv.1 id];exact hv.2.2⟩,k.below h.Sa (λ_ h=>h.elim),rfl,rfl,λg hg=>(biI.1 hg).imp id (λh=>by simp at h;omega),λr _ n cap sz h=>.inl ⟨r,n,cap,sz,h⟩,λq hq _ _=>k.block q hq not_false⟩;rcases hs with hs | hs
  rcases biI.1 hs with hs | hs
  exact hv.2.1 (.inl hs);have h0:=hv.1;simp at hs;omega;exact hv.2.1 (.inr hs)
 refine⟨e,⟨by simp[AS.new,h.len],⟨bjQ _,h.desc⟩,?_,?_,λid g b' h1 h2=>?_,h.Ia,λr g n cap sz hr=>?_,h.IZ,λg hg=>?_,λg i hb=>beL (h.Ng g i hb) k.size,h.Ie,λg cs hg=>(h.Nh g cs hg).mono e,by simp;exact brK h.Sa,h.ON.mono e⟩⟩;intro i j g h1 h2;by_cases hi:i < c.Ce.length<;>by_cases hj:j < c.Ce.length
 rw[bhD hi] at h1;rw[bhD hj] at h2;exact h.nodup i j g h1 h2;rw[bhD hi] at h1;rw[bjF (by omega)] at h2;have:=h.OY (aWR h1);cases hk:j - c.Ce.length with|zero=>rw[hk] at h2;simp at h2;omega|succ n=>rw[hk] at h2;simp at h2
 rw[bhD hj] at h2;rw[bjF (by omega)] at h1;have:=h.OY (aWR h2);cases hk:i - c.Ce.length with|zero=>rw[hk] at h1;simp at h1;omega|succ n=>rw[hk] at h1;simp at h1
 have e1:=(aBC.1 h1).1;have e2:=(aBC.1 h2).1;simp at e1 e2;omega;intro g hg;rcases biI.1 hg with hg | hg
 exact h.low g hg;simp at hg;subst hg;exact h.Sa;simp only[AS.get,AS.new,look] at h2;split at h2;rename_i bG;cases h2;have bcT:id=c.Ce.length:=by rw[<- h.len];exact(beq_true bG).symm
 subst bcT;rw[bjT] at h1;cases h1;exact⟨o,yP w o,hb.mono e⟩;have hlt:=Yc h.desc h2;rw[bhD (by rw[<- h.len];exact hlt)] at h1;obtain⟨o',ho,bG⟩:=h.box id g b' h1 h2;exact⟨o',by rw[k.block g (aPB.1 ho).1 not_false];exact ho,bG.mono e⟩;obtain⟨L7,h2,h3,h4,vs,T,ho,h5⟩:=h.row r g n cap sz hr;refine⟨L7,h2,?_,h4,vs,T,by rw[k.block g (aPB.1 ho).1 not_false];exact ho,h5⟩;intro hm;rcases biI.1 hm with hm | hm
 exact h3 hm;have:=(aPB.1 ho).1;simp at hm;omega;rcases biI.1 hg with hg | hg
 have:=h.NA g hg;simp;omega;simp at hg;subst hg;simp
def St.put(h:St G c w s){id g:Nat}{b:Ay}{o:Obj}{w':World}(hid:c.Ce[id]?=some (some g))(k:Ut w w' (λx=>x=g))(hw:w'.heap[g]?=some o)(hb:Fc c w b o) :
   Ext c w c w'/\St G c w' (s.put id b):=by
 have hgm:some g∈c.Ce:=aWR hid
 have e:Ext c w c w':=by refine⟨blK _,aWP _,λ_ y _ h=>⟨y,h,L6.refl y⟩,λg' i v hv=>⟨beL hv.1 k.size,hv.2.1,?_⟩,k.below h.Sa (λx hx=>by rw[hx];exact h.low g hgm),rfl,rfl,λ_ h=>.inl h,λr _ n cap sz h=>.inl ⟨r,n,cap,sz,h⟩,λq hq hp _=>k.block q hq (λe=>hp (by rw[e];exact hgm))⟩;rw[k.cell hv.1 (λe=>hv.2.1 (.inl (by rw[e];exact hgm)))];exact hv.2.2
 refine⟨e,⟨h.len,kK h.desc,h.nodup,h.low,λT5 g' b' h1 h2=>?_,h.Ia,λr g' n cap sz hr=>?_,h.IZ,λg hg=>beL (h.NA g hg) k.size,λg i hb=>beL (h.Ng g i hb) k.size,h.Ie,λg' cs hg=>(h.Nh g' cs hg).mono e,biP h.Sa k.size,h.ON.mono e⟩⟩;rcases kL h2 with ⟨rfl,rfl⟩ | ⟨hii,h3⟩
 rw[hid] at h1;cases h1;exact⟨o,hw,hb.mono e⟩;obtain⟨o',ho,bG⟩:=h.box T5 g' b' h1 h3
 have hne:¬g'=g:=λhg=>by
  subst hg;exact hii (h.nodup _ _ _ h1 hid)
 exact⟨o',by rw[k.block g' (aPB.1 ho).1 hne];exact ho,bG.mono e⟩;obtain⟨L7,h2,h3,h4,vs,T,ho,h5⟩:=h.row r g' n cap sz hr;exact⟨L7,h2,h3,h4,vs,T,by rw[k.block g' (aPB.1 ho).1 (λe=>h3 (by rw[e];exact hgm))];exact ho,h5⟩
def AS.tok(s:AS):AS:=⟨s.h,s.nx,(s.nr,0)::s.F,s.nr+1⟩
def zV{c:Cx}{r:Nat}{x:Rw}(h:(c.rows++[Rw.new])[r]?=some x):(r < c.rows.length/\c.rows[r]?=some x)\/(r=c.rows.length/\x=.new):=by
 by_cases hr:r < c.rows.length;rw[bhD hr] at h;exact .inl ⟨hr,h⟩;have hl:=(aBC.1 h).1;simp at hl;have:r=c.rows.length:=by omega
 subst this;rw[bjT] at h;exact .inr ⟨rfl,(biA h).symm⟩
def St.tok(h:St G c w s):Ext c w { c with rows:=c.rows++[.new] } w/\St G { c with rows:=c.rows++[.new] } w s.tok:=by
 have hb:∀(r g n cap sz:Nat),(c.rows++[Rw.new])[r]?=some (.Sk g n cap sz)->c.rows[r]?=some (.Sk g n cap sz):=λr g n cap sz hr=>by
  rcases zV hr with h1 | h1
  exact h1.2;cases h1.2
 have e:Ext c w { c with rows:=c.rows++[.new] } w:=by
  refine⟨blK _,by simp,λr y hr hy=>?_,λg i v hv=>⟨hv.1,λhs=>?_,hv.2.2⟩,Below.refl _ _,rfl,rfl,λ_ h=>.inl h,λr g n cap sz hr=>.inl ⟨r,n,cap,sz,hb _ _ _ _ _ hr⟩,λ_ _ _ _=>rfl⟩;rcases zV hy with h1 | h1
  exact⟨y,h1.2,L6.refl y⟩;omega;rcases hs with hs | ⟨r,n,cap,sz,hr,h1,h2⟩ | hs
  exact hv.2.1 (.inl hs);exact hv.2.1 (.inr (.inl ⟨r,n,cap,sz,hb _ _ _ _ _ hr,h1,h2⟩));exact hv.2.1 (.inr (.inr hs))
 refine⟨e,⟨h.len,h.desc,h.nodup,h.low,λid g b h1 h2=>?_,by simp[AS.tok,h.Ia],λr g n cap sz hr=>h.row r g n cap sz (hb _ _ _ _ _ hr),λr n hr=>?_,h.NA,h.Ng,λr r' g n cap sz n' cap' OI h1 h2=>h.Ie r r' g _ _ _ _ _ _ (hb _ _ _ _ _ h1) (hb _ _ _ _ _ h2),λg cs hg=>(h.Nh g cs hg).mono e,h.Sa,h.ON.mono e⟩⟩;obtain⟨o,ho,rJ⟩:=h.box id g b h1 h2;exact⟨o,ho,rJ.mono e⟩;simp only[AS.tok,DV] at hr;split at hr;rename_i h1;have:=beq_true h1;rw[h.Ia] at this;subst this;cases hr;exact .inl ⟨bjT,rfl⟩;have h2:=h.IZ r n hr
 have hlt:r < c.rows.length:=by
  rcases h2 with h2 | ⟨g,cap,sz,h2⟩
  exact(aBC.1 h2.1).1;exact(aBC.1 h2).1
 simp only;rw[bhD hlt];exact h2
def St.cut(h:St G c w s)(n:Nat):St G c w (s.cut n) :=
 ⟨h.len,acF h.desc,h.nodup,h.low,λid g b h1 h2=>h.box id g b h1 (WJ h.desc h2),h.Ia,h.row,h.IZ,h.NA,h.Ng,h.Ie,h.Nh,h.Sa,h.ON⟩
end
def AS.hold(s:AS):List Ay->AS
 |[]=>s
 |b::l=>(s.new b).hold l
section
variable {G:AN}{c:Cx}{w:World}{s:AS}
def U2{l:List (Option Nat)}{g:Nat}:some g∈l++[none]↔some g∈l:=by simp
def St.hole(h:St G c w s)(b:Ay):∃c',Ext c w c' w/\St G c' w (s.new b)/\c'.Ce=c.Ce++[none]:=by
 refine⟨{ c with Ce:=c.Ce++[none] },?_⟩
 have e:Ext c w { c with Ce:=c.Ce++[none] } w:=by
  refine⟨blW _ _,aWP _,λ_ y _ h=>⟨y,h,L6.refl y⟩,λg i v hv=>⟨hv.1,λhs=>?_,hv.2.2⟩,Below.refl _ _,rfl,rfl,λg hg=>.inl (U2.1 hg),λr _ n cap sz h=>.inl ⟨r,n,cap,sz,h⟩,λ_ _ _ _=>rfl⟩;rcases hs with hs | hs
  exact hv.2.1 (.inl (U2.1 hs));exact hv.2.1 (.inr hs)
 have get:∀(i g:Nat),(c.Ce++[none])[i]?=some (some g)->c.Ce[i]?=some (some g):=by intro i g hi;by_cases hl:i < c.Ce.length;rwa[bhD hl] at hi;rw[bjF (by omega)] at hi;cases hk:i - c.Ce.length with|zero=>rw[hk] at hi;simp at hi|succ n=>rw[hk] at hi;simp at hi
 refine⟨e,⟨by simp[AS.new,h.len],⟨bjQ _,h.desc⟩,λi j g h1 h2=>h.nodup i j g (get i g h1) (get j g h2),λg hg=>h.low g (U2.1 hg),λid g b' h1 h2=>?_,h.Ia,λr g n cap sz hr=>?_,h.IZ,λg hg=>h.NA g (U2.1 hg),h.Ng,h.Ie,λg cs hg=>(h.Nh g cs hg).mono e,h.Sa,h.ON.mono e⟩,rfl⟩;have h1:=get id g h1;simp only[AS.get,AS.new,look] at h2;split at h2;rename_i bG;exfalso;have:=(aBC.1 h1).1;have h3:=beq_true bG;have h4:=h.len;omega;obtain⟨o',ho,bG⟩:=h.box id g b' h1 h2;exact⟨o',ho,bG.mono e⟩;obtain⟨L7,h2,h3,h4⟩:=h.row r g n cap sz hr;exact⟨L7,h2,λhm=>h3 (U2.1 hm),h4⟩
def St.holds(h:St G c w s)(l:List Ay):∃c',Ext c w c' w/\St G c' w (s.hold l)/\c'.Ce=c.Ce++bjS l.length none:=by
 induction l generalizing c s with
 |nil=>exact⟨c,Ext.refl _ _,h,by simp⟩
 |cons b l ih=>
  obtain⟨c1,e1,st1,p1⟩:=h.hole b;obtain⟨c2,e2,XI,p2⟩:=ih st1;exact⟨c2,e1.trans e2,XI,by rw[p2,p1,bjX];rfl⟩
def mem_set{l:List (Option Nat)}{id g x:Nat}(h:some g∈l.set id (some x)):some g∈l\/g=x:=by
 rcases List.mem_or_eq_of_mem_set h with h | h
 exact .inl h;exact .inr (by simpa using h)
def rC{l:List (Option Nat)}{id x i g:Nat}(h:(l.set id (some x))[i]?=some (some g)):l[i]?=some (some g)\/(i=id/\g=x):=by
 by_cases e:id=i;subst e;rw[List.getElem?_set_self' ] at h;cases hl:l[id]? with|none=>rw[hl] at h;cases h|some y=>rw[hl] at h;simp at h;exact .inr ⟨rfl,h.symm⟩
 rw[bjB e] at h;exact .inl h
def St.fill(h:St G c w s){id:Nat}{b:Ay}{o:Obj}(hid:c.Ce[id]?=some none)(Pn:s.get id=some b)(hb:Fc c w b o) :
   Mon c w { c with Ce:=c.Ce.set id (some w.heap.size) } { w with heap:=w.heap.push o }/\St G { c with Ce:=c.Ce.set id (some w.heap.size) } { w with heap:=w.heap.push o } s /\
   ∀c0 w0,Ext c0 w0 c w->c0.Ce.length<=id->Ext c0 w0 { c with Ce:=c.Ce.set id (some w.heap.size) } { w with heap:=w.heap.push o }:=by
 have k:=PU w o;have hlt:id < c.Ce.length:=(aBC.1 hid).1
 have bhP:(c.Ce.set id (some w.heap.size))[id]?=some (some w.heap.size):=by rw[biW hlt]
 have hold:∀(i g:Nat),c.Ce[i]?=some (some g)->(c.Ce.set id (some w.heap.size))[i]?=some (some g):=by
  intro i g hi;have:id≠i:=λe=>by subst e;rw[hid] at hi;cases hi
  rw[bjB this];exact hi
 have jX:∀g i,({ c with Ce:=c.Ce.set id (some w.heap.size) }:Cx).jX g i->c.jX g i\/g=w.heap.size:=by
  intro g i hs;rcases hs with hs | hs
  rcases mem_set hs with hs | hs
  exact .inl (.inl hs);exact .inr hs;exact .inl (.inr hs)
 have H8:∀g i v,MD c w g i v->MD { c with Ce:=c.Ce.set id (some w.heap.size) } { w with heap:=w.heap.push o } g i v:=by
  intro g i v hv;refine⟨beL hv.1 k.size,λhs=>?_,by rw[k.cell hv.1 not_false];exact hv.2.2⟩;rcases jX g i hs with hs | hs
  exact hv.2.1 hs;have:=hv.1;omega
 have m:Mon c w { c with Ce:=c.Ce.set id (some w.heap.size) } { w with heap:=w.heap.push o }:=⟨hold,aWP _,λ_ y _ h=>⟨y,h,L6.refl y⟩,H8⟩
 refine⟨m,⟨by simp[h.len],h.desc,?_,?_,λi g b' h1 h2=>?_,h.Ia,λr g n cap sz hr=>?_,h.IZ,λg hg=>?_,λg i hb=>beL (h.Ng g i hb) k.size,h.Ie,λg cs hg=>(h.Nh g cs hg).DL m,by simp;exact brK h.Sa,λg cs hg=>by
  obtain⟨⟨h1,h2⟩,vs,T,f,h3,h4⟩:=h.ON g cs hg;have hlt:=(aPB.1 h3).1;refine⟨⟨λhm=>?_,h2⟩,vs,T,f,?_,h4⟩;rcases mem_set hm with hm | hm
  exact h1 hm;omega;rw[k.block g hlt not_false];exact h3⟩,?_⟩
 intro i j g h1 h2;rcases rC h1 with h1 | ⟨e1,g1⟩<;>rcases rC h2 with h2 | ⟨e2,g2⟩
 exact h.nodup i j g h1 h2;have:=h.OY (aWR h1);omega;have:=h.OY (aWR h2);omega;omega;intro g hg;rcases mem_set hg with hg | hg
 exact h.low g hg;subst hg;exact h.Sa;rcases rC h1 with h1 | ⟨e1,g1⟩
 obtain⟨o',ho,bG⟩:=h.box i g b' h1 h2;exact⟨o',by rw[k.block g (aPB.1 ho).1 not_false];exact ho,bG.DL m⟩;subst e1 g1;rw[Pn] at h2;cases h2;exact⟨o,yP w o,hb.DL m⟩;obtain⟨L7,h2,h3,h4,vs,T,ho,h5⟩:=h.row r g n cap sz hr;refine⟨L7,h2,λhm=>?_,h4,vs,T,by rw[k.block g (aPB.1 ho).1 not_false];exact ho,h5⟩;rcases mem_set hm with hm | hm
 exact h3 hm;have:=(aPB.1 ho).1;omega;rcases mem_set hg with hg | hg
 have:=h.NA g hg;simp;omega;subst hg;simp;intro c0 w0 x hle;refine⟨?_,x.Ia,x.rows,λg i v hv=>H8 g i v (x.cH g i v hv),x.below.trans (k.below (by rw[<- x.base];exact h.Sa) (λ_ h=>h.elim)),x.base,x.bad,λg hg=>?_,x.Yx,λq hq hp hr=>?_⟩;obtain⟨t,ht⟩:=x.Ce;refine⟨t.set (id - c0.Ce.length) (some w.heap.size),?_⟩;show _=c.Ce.set id (some w.heap.size);rw[<- ht,blH _ _ hle];rcases mem_set hg with hg | hg
 exact x.Yn g hg;subst hg;exact .inr x.below.size;have nT:q < w.heap.size:=beL hq x.below.size;rw[k.block q nT not_false];exact x.GY q hq hp hr
end
end AI
namespace AI
open Go Go.RowKit
def pv{α:Type}(P:Program):Sem α->Option α
 |.pure a=>some a
 |.program k=>pv P (k P)
 |.mark _ k=>pv P k
 |_=>none
def avE{α:Type}{P:Program}(s:Sem α){a:α}(h:pv P s=some a)(w:World):s.run P w=.ok a w:=by induction s with|pure b=>simp[pv] at h;subst h;rfl|program k ih=>exact ih P (by simpa[pv] using h)|mark m k ih=>exact ih (by simpa[pv] using h)|_=>simp[pv] at h
def Zo(v:Value):Option AV :=
 match v with|.slice none 0 0=>some (.sl .full 0 [])|.func f first caps=>if first.size=0/\caps.size=0 then some (.fn f [] []) else none|v=>if scalar v then some (.sc v) else none
def NM:List Value->Option (List AV)
 |[]=>some []
 |v::vs=>match Zo v,NM vs with|some a,some as=>some (a::as)|_,_=>none
def aG(v:Value):Option AV :=
 match v with|.agg cs=>(NM cs.toList).map .agg|v=>Zo v
def oG{v:Value}{a:AV}(h:Zo v=some a)(c:Cx)(w:World):Rp c w a v:=by
 unfold Zo at h;split at h;cases h;exact .sl0 rfl;rename_i f first caps
 split at h;rename_i hz;cases h;have h1:first=#[]:=bnX hz.1
 have h2:caps=#[]:=bnX hz.2;subst h1 h2;exact .fn (us:=[]) (vs:=[]) .nil .nil;cases h;split at h;rename_i hs;cases h;exact .sc hs;cases h
def Tl{vs:List Value}{as:List AV}(h:NM vs=some as)(c:Cx)(w:World):Cw c w as vs:=by
 induction vs generalizing as with
 |nil=>simp[NM] at h;subst h;exact .nil
 |cons v vs ih=>
  simp only[NM] at h;split at h;rename_i a bs h1 h2;cases h;exact .cons (oG h1 c w) (ih h2);cases h
def yD{v:Value}{a:AV}(h:aG v=some a)(c:Cx)(w:World):Rp c w a v:=by
 unfold aG at h;split at h
 ·rename_i cs
  cases hc:NM cs.toList with
  |none=>rw[hc] at h;cases h
  |some as=>
   rw[hc] at h;cases h;have:=Rp.agg (Tl hc c w);rwa[bkP] at this
 exact oG h c w
def cellsOf:AV->List AV
 |.agg cs=>cs
 |v=>[v]
def UZ:AV->Bool
 |.any=>true
 |_=>false
def S3{c:Cx}{w:World}{a:AV}{v:Value}(h:Rp c w a v)(hn:UZ a=false):Cw c w (cellsOf a) v.cells.toList:=by
 cases h with
 |agg h1=>simpa[cellsOf,Value.cells] using h1
 |sc h1=>
  cases v<;>first | (simp[scalar] at h1;done) | exact .cons (.sc h1) .nil
 |Gx h1=>exact .cons (.Gx h1) .nil
 |sl0 h1=>exact .cons (.sl0 h1) .nil
 |Lt a1 a2 a3=>exact .cons (.Lt a1 a2 a3) .nil
 |Im a1 a2=>exact .cons (.Im a1 a2) .nil
 |el a1=>exact .cons (.el a1) .nil
 |ptr a1=>exact .cons (.ptr a1) .nil
 |fn a1 a2=>exact .cons (.fn a1 a2) .nil
 |ifc a1=>exact .cons (.ifc a1) .nil
 |mp a1=>exact .cons (.mp a1) .nil
 |any a1=>cases hn
 |raw=>exact .cons .raw .nil
def one:AV->Bool
 |.agg _ | .Gx _ | .any=>false
 |.sc (.tuple _)=>false
 |_=>true
def aQO{c:Cx}{w:World}{a:AV}{v:Value}(h:Rp c w a v)(ho:one a=true):v.oneCell'=true:=by
 cases h with
 |sc h1=>
  cases v<;>first | rfl | (simp[scalar] at h1;done) | (simp[one] at ho;done)
 |agg=>simp[one] at ho
 |Gx=>simp[one] at ho
 |any=>simp[one] at ho
 |_=>rfl
def dK{c:Cx}{w:World}{as:List AV}{vs:List Value}(h:Cw c w as vs)(ho:as.all one=true):∀v∈vs,v.oneCell'=true:=by
 induction as generalizing vs with
 |nil=>cases h;simp
 |cons a as ih=>
  cases h with
  |cons h1 t=>
   simp only[bmQ,bhB] at ho;intro v hv;rcases bhJ.1 hv with hv | hv
   subst hv;exact aQO h1 ho.1;exact ih t ho.2 v hv
def OP:TypeDesc->Bool
 |.struct _ | .array _ _=>true
 |_=>false
def apart(P:Program)(t:TypeId)(cs:List AV)(off:Nat):Option AV :=
 match P.underlying t,P.info? t with|some d,some i=>if OP d then (if off+i.size<=cs.length then some (.agg ((cs.drop off).take i.size)) else none) else cs[off]?|_,_=>none
def oQ{P:Program}{t:TypeId}{d:TypeDesc}(h:P.underlying t=some d)(w:World):(isAgg t).run P w=.ok (OP d) w:=by unfold isAgg;rw[biG,run_underlying h];cases d<;>rfl
def CN{P:Program}{t:TypeId}{i:TypeInfo}(h:P.info? t=some i)(w:World):(boU t).run P w=.ok i.size w:=by simp[boU,typeInfo,h]
def add_lit(g o i:Nat):(⟨g,o,none⟩:Addr).add i=⟨g,o+i,none⟩:=by unfold Addr.add;split<;>simp_all
def WG{P:Program}{c:Cx}{w:World}{t:TypeId}{cs:List AV}{vs:List Value}{g o off:Nat}{a:AV}(h:apart P t cs off=some a)(hr:Cw c w cs vs)(hc:∀(i:Nat) v,vs[i]?=some v->w.cell? ⟨g,o+i,none⟩=some v) :
   ∃u,(loadVar t ⟨g,o+off,none⟩).run P w=.ok u w/\Rp c w a u:=by
 unfold apart at h;split at h;rename_i d i hu hi;unfold loadVar;rw[biG,oQ hu];by_cases hd:OP d=true;rw[if_pos hd] at h;split at h;rename_i hl;cases h;have hlen:=hr.len;refine⟨.agg ((vs.drop off).take i.size).toArray,?_,.agg ((hr.drop off).take i.size)⟩;have hll:((vs.drop off).take i.size).length=i.size:=by rw[biM,bhI];omega
 have:=run_loadCells_list (P:=P) w ⟨g,o+off,none⟩ ((vs.drop off).take i.size) (λj v hj=>by
  rw[add_lit]
  have hj2:vs[off+j]?=some v:=by rw[bkY] at hj;split at hj;rw[blL] at hj;exact hj;cases hj
  have:=hc (off+j) v hj2;rwa[blB])
 rw[hll] at this;simp[hd,CN hi,this];cases h;rw[if_neg hd] at h;obtain⟨v,hv,hrv⟩:=hr.get h;have:=hc off v hv;exact⟨v,by simp[hd,this],hrv⟩;cases h
def fJ{P:Program}{c:Cx}{w:World}{t:TypeId}{cs:List AV}{vs:List Value}{off:Nat}{a:AV}(h:apart P t cs off=some a)(hr:Cw c w cs vs)(w0:World) :
   ∃u,(part t vs.toArray off).run P w0=.ok u w0/\Rp c w a u:=by
 unfold apart at h;split at h;rename_i d i hu hi;unfold part;rw[biG,oQ hu];by_cases hd:OP d=true;rw[if_pos hd] at h;split at h;cases h;refine⟨.agg ((vs.drop off).take i.size).toArray,?_,.agg ((hr.drop off).take i.size)⟩;simp only[hd,biD,if_true,biG,CN hi,bjJ];congr 2;apply bjG;simp[List.extract_eq_take_drop];cases h;rw[if_neg hd] at h;obtain⟨v,hv,hrv⟩:=hr.get h;exact⟨v,by simp[hd,hv],hrv⟩;cases h
def J9(P:Program)(s:AS)(t:TypeId):AV->Option AV
 |.ptr id off=>match s.get id with|some (.cells cs)=>apart P t cs off|_=>none
 |.el cs=>apart P t cs 0
 |_=>none
def Vz{G:AN}{c:Cx}{w:World}{s:AS}(hs:St G c w s){id g:Nat}{cs:List AV}(hid:c.Ce[id]?=some (some g))(hb:s.get id=some (.cells cs)):∃vs ext T,w.heap[g]?=some (.cells (vs++ext).toArray T (0,0))/\Cw c w cs vs:=by obtain⟨o,ho,rJ⟩:=hs.box id g _ hid hb;cases rJ with|FA ext h1=>exact⟨_,ext,_,ho,h1⟩
def XR{α:Type}{l m:List α}{i:Nat}{x:α}(h:l[i]?=some x):(l++m)[i]?=some x:=by rw[bhD (aBC.1 h).1];exact h
def cell_of_heap{w:World}{g:Nat}{vs:List Value}{T:TypeId}{fr:Nat×Nat}(h:w.heap[g]?=some (.cells vs.toArray T fr)){i:Nat}{v:Value}(hv:vs[i]?=some v):w.cell? ⟨g,i,none⟩=some v:=by simp[bjZ,h,hv]
def vI{P:Program}{G:AN}{c:Cx}{w:World}{s:AS}{t:TypeId}{a r:AV}{v:Value}(hs:St G c w s)(h:J9 P s t a=some r)(ha:Rp c w a v):∃u,(bnN t v).run P w=.ok u w/\Rp c w r u:=by
 unfold J9 at h;split at h
 ·split at h
  ·rename_i id off cs hb
   cases ha with
   |ptr hid=>
    obtain⟨vs,ext,T,hw,hr⟩:=Vz hs hid hb;have:=WG (g:=_) (o:=0) h hr (λi v hv=>by rw[bhC];exact cell_of_heap hw (XR hv));rw[bhC] at this;obtain⟨u,h1,h2⟩:=this;exact⟨u,by simp[bnN,bkV,h1],h2⟩
  cases h
 ·rename_i cs
  cases ha with
  |el hc=>
   obtain⟨vs,hr,H8⟩:=hc.vals;obtain⟨u,h1,h2⟩:=WG h hr (λi v hv=>(H8 i v hv).2.2);rw[bjU] at h1;exact⟨u,by simp[bnN,bkV,h1],h2⟩
 cases h
def adM{x:AV}(h:(cellsOf x).all one=true):UZ x=false:=by cases x<;>first | rfl | (simp[cellsOf,one] at h;done)
def yA{v:Value}{a:AV}(h:Zo v=some a):UZ a=false:=by unfold Zo at h;split at h;cases h;rfl;split at h;cases h;rfl;cases h;split at h;cases h;rfl;cases h
def adN{v:Value}{a:AV}(h:aG v=some a):UZ a=false:=by
 unfold aG at h;split at h;rename_i cs;cases hc:NM cs.toList with|none=>rw[hc] at h;cases h|some as=>rw[hc] at h;cases h;rfl
 exact yA h
def IV{α:Type}(cs:List α)(off:Nat)(xs:List α):List α:=cs.take off++xs++cs.drop (off+xs.length)
def Cw.IV{c:Cx}{w:World}{as bs:List AV}{us vs:List Value}(h:Cw c w as us)(k:Cw c w bs vs)(off:Nat):Cw c w (AI.IV as off bs) (AI.IV us off vs):=by unfold AI.IV;rw[k.len];exact((h.take off).append k).append (h.drop _)
def Lf(P:Program)(s:AS)(t:TypeId)(a x:AV):Option AS :=
 match P.info? t,a with
 |some i,.ptr id off=>match s.get id with|some (.cells cs)=>if (cellsOf x).length=i.size/\(cellsOf x).all one=true/\off+i.size<=cs.length then some (s.put id (.cells (IV cs off (cellsOf x)))) else none|_=>none
 |_,_=>none
def IM(w:World)(g:Nat)(cs:Array Value):Ut w (w.setRow g cs) (λx=>x=g) :=
 ⟨rfl,rfl,rfl,by simp[btG],λk _ hne=>by simp only[btG,Array.getElem?_modify];rw[if_neg (λe=>hne e.symm)]⟩
def akK{P:Program}{G:AN}{c:Cx}{w:World}{s s':AS}{t:TypeId}{a x:AV}{v u:Value}(hs:St G c w s)(h:Lf P s t a x=some s')(ha:Rp c w a v)(hx:Rp c w x u) :
   ∃w',(bsV t v u).run P w=.ok () w'/\Ext c w c w'/\St G c w' s':=by
 unfold Lf at h;split at h
 ·rename_i i id off hi
  split at h
  ·rename_i cs hb
   split at h
   ·rename_i hc
    cases h;cases ha with
    |ptr hid=>
     rename_i g;obtain⟨vs,ext,T,hw,hr⟩:=Vz hs hid hb;have hxr:=S3 hx (adM hc.2.1);have hl:=hxr.len;have hlv:=hr.len;have Dc:=run_storeCells_at P g off T u.cells.toList 0 (vs++ext).toArray w hw (by simp only[bjY,bjU,aWQ];omega) (dK hxr hc.2.1);obtain⟨e,st⟩:=hs.put (b:=.cells (IV cs off (cellsOf x))) hid (IM w g (IV vs off u.cells.toList++ext).toArray) (setRow_heap w g (vs++ext).toArray _ T (0,0) hw) (.FA ext (hr.IV hxr off));refine⟨_,?_,e,st⟩;have hsz:u.cells.size=i.size:=by rw[<- hc.1,<- hl];simp
     simp only[bsV,bkV,biG,bjJ,biD,storeVar,CN hi,hsz,ne_eq,not_true_eq_false,if_false];simp only[bjU] at Dc
     have hsp:IV (vs++ext) off u.cells.toList=IV vs off u.cells.toList++ext:=by unfold IV;rw[List.take_append_of_le_length (by omega),List.drop_append_of_le_length (by omega)];simp only[bjX]
     rw[<- hsp];exact Dc
   cases h
  cases h
 cases h
def afO{P:Program}{G:AN}{c:Cx}{w:World}{s:AS}{t:TypeId}{x:AV}{u:Value}(hs:St G c w s)(hx:Rp c w x u)(hn:UZ x=false) :
   ∃v' w' c',(bpV t u).run P w=.ok v' w'/\Ext c w c' w'/\St G c' w' (s.new (.cells (cellsOf x)))/\Rp c' w' (.ptr s.nx 0) v':=by
 have hxr:=S3 hx hn
 have hb:Fc c w (.cells (cellsOf x)) (.cells u.cells t (0,0)):=by have:=Fc.cells (T:=t) hxr;rwa[bkP] at this
 obtain⟨e,st⟩:=hs.new hb;refine⟨.pointer (some ⟨w.heap.size,0,none⟩),_,_,?_,e,st,.ptr ?_⟩;simp[bpV,newVar,newRow];simp[hs.len]
def akC{P:Program}{G:AN}{c:Cx}{w:World}{s:AS}{t:TypeId}{x:AV}{u:Value}{id:Nat}(hs:St G c w s)(hx:Rp c w x u)(hn:UZ x=false)(hid:c.Ce[id]?=some none)(Pn:s.get id=some (.cells (cellsOf x))) :
   ∃v' w' c',(bpV t u).run P w=.ok v' w'/\Mon c w c' w'/\St G c' w' s/\Rp c' w' (.ptr id 0) v'/\(∀c0 w0,Ext c0 w0 c w->c0.Ce.length<=id->Ext c0 w0 c' w')/\∀i,i≠id->c'.Ce[i]?=c.Ce[i]?:=by
 have hxr:=S3 hx hn
 have hb:Fc c w (.cells (cellsOf x)) (.cells u.cells t (0,0)):=by have:=Fc.cells (T:=t) hxr;rwa[bkP] at this
 obtain⟨m,st,ex⟩:=hs.fill hid Pn hb;refine⟨.pointer (some ⟨w.heap.size,0,none⟩),_,_,?_,m,st,.ptr ?_,ex,λi hi=>?_⟩;simp[bpV,newVar,newRow];exact biW (aBC.1 hid).1;exact bjB (λe=>hi e.symm)
end AI
namespace AI
open Go Go.RowKit
def aAN(off:Nat)(xs:List Value)(k:Nat)(cs:List Value)(h:off+k+xs.length<=cs.length) :
   (xs.zipIdx k).foldl (λ(a:Array Value)(p:Value×Nat)=>a.setIfInBounds (off+p.2) p.1) cs.toArray=(IV cs (off+k) xs).toArray:=by
 induction xs generalizing k cs with
 |nil=>simp[IV]
 |cons x xs ih=>
  simp only[bhE] at h;rw[List.zipIdx_cons,bsD];have:=ih (k+1) (cs.set (off+k) x) (by simp;omega);simp only[List.setIfInBounds_toArray];rw[this];have e:=list_seg_step cs (off+k) x xs (by omega);unfold IV;rw[show off+(k+1)=off+k+1 from by omega,e];simp
inductive PL(c:Cx)(w:World):List (Nat×AV)->List (Nat×Value)->Prop where
 |nil:PL c w [] []
 |cons {i:Nat}{a:AV}{v:Value}{as:List (Nat×AV)}{vs:List (Nat×Value)} (h:Rp c w a v) (t:PL c w as vs):PL c w ((i,a)::as) ((i,v)::vs)
def Wd(place:Nat->Option (Nat×Nat))(cells:List AV):List (Nat×AV)->Option (List AV)
 |[]=>some cells
 |(i,v)::rest=>match place i with|none=>none|some (off,size)=>if UZ v=false/\(cellsOf v).length=size/\off+size<=cells.length then Wd place (IV cells off (cellsOf v)) rest else none
def fG{c:Cx}{w:World}{place:Nat->Option (Nat×Nat)}{cells r:List AV}{ps:List (Nat×AV)}{vs:List Value}{qs:List (Nat×Value)}(h:Wd place cells ps=some r)(hr:Cw c w cells vs)(hp:PL c w ps qs) :
   ∃us,bqD place vs.toArray qs=some us.toArray/\Cw c w r us:=by
 induction hp generalizing cells vs with
 |nil=>simp[Wd] at h;subst h;exact⟨vs,rfl,hr⟩
 |cons h1 _ ih=>
  rename_i i a v as qs' _;simp only[Wd] at h;split at h;cases h;rename_i off size hpl;split at h;rename_i hc;have hv:=S3 h1 hc.1
  replace hc:=hc.2
  have hl:=hv.len;have hlc:=hr.len;obtain⟨us,hf,hu⟩:=ih h (hr.IV hv off);refine⟨us,?_,hu⟩;unfold bqD;rw[hpl];have hsz:v.cells.size=size:=by rw[<- hc.1,<- hl];simp
  have aWW:(decide (v.cells.size≠size)||decide (off+v.cells.size > vs.toArray.size))=false:=by simp[hsz];omega
  simp only[aWW,biF,if_false];have:=aAN off v.cells.toList 0 vs (by rw[bjU];omega);rw[bjU] at this;rw[<- hf,<- this];congr 1;rw[<- Array.foldl_toList,Array.toList_zipIdx];cases h
def jY(P:Program)(fields:Array Field)(k:Nat):Option (Nat×Nat) :=
 match fields.toList[k]? with|some f=>(P.info? f.type).map λi=>(f.offset,i.size)|none=>none
def fC(P:Program)(t:TypeId)(parts:List (Nat×AV)):Option AV :=
 match P.info? t,P.underlying t with
 |some i,some d=>match i.zero with
  |some z=>match NM z.cells.toList with
   |some zs=>match d with
    |.struct fields=>if fields.toList.all (λf=>(P.info? f.type).isSome)=true then (Wd (jY P fields) zs parts).map .agg else none
    |.array _ elem=>match P.info? elem with|some e=>(Wd (λi=>some (i*e.size,e.size)) zs parts).map .agg|none=>none
    |_=>none
   |none=>none
  |none=>none
 |_,_=>none
def run_places{P:Program}(fs:List Field)(h:fs.all (λf=>(P.info? f.type).isSome)=true)(w:World) :
   (fs.mapM (m:=Sem) λf=>do pure (f.offset,<- boU f.type)).run P w=.ok (fs.map λf=>(f.offset,((P.info? f.type).map (·.size)).getD 0)) w:=by
 induction fs with
 |nil=>rfl
 |cons f fs ih=>
  simp only[bmQ,bhB] at h;obtain⟨i,hi⟩:=bnD.1 h.1;rw[bsM];simp only[biG,CN hi,biD,bjJ,ih h.2,List.map_cons,hi,bhK,bmH]
def akD{P:Program}{c:Cx}{w:World}{t:TypeId}{ps:List (Nat×AV)}{r:AV}{qs:Array (Nat×Value)}(h:fC P t ps=some r)(hp:PL c w ps qs.toList)(w0:World) :
   ∃u,(bsC t qs).run P w0=.ok u w0/\Rp c w r u:=by
 unfold fC at h;split at h
 ·rename_i i d hi hu
  split at h
  ·rename_i z hz
   split at h
   ·rename_i zs hzs
    have hzr:=Tl hzs c w;split at h
    ·rename_i fields
     split at h
     ·rename_i IN
      cases hf:Wd (jY P fields) zs ps with
      |none=>rw[hf] at h;cases h
      |some cs=>
       rw[hf] at h;cases h;obtain⟨us,Z6,hur⟩:=fG hf hzr hp;refine⟨.agg us.toArray,?_,.agg hur⟩;have hpl:=run_places (P:=P) fields.toList IN w0
       have aOO:(λk=>(fields.toList.map λf=>(f.offset,((P.info? f.type).map (·.size)).getD 0)).toArray[k]?)=jY P fields:=by
        funext k;unfold jY;simp only[bkS,biH];cases hk:fields.toList[k]? with
        |none=>simp
        |some f=>
         obtain⟨i,hi⟩:=bnD.1 (bjM.1 IN f (aWR hk));simp[hi]
       unfold bsC;simp only[biG,zeroValue,typeInfo,run_program,biD,hi,hz,bjJ,run_underlying hu];rw[bpE];simp only[Sem.run_map,hpl,biD];rw[show(λx=>(List.map (λf=>(f.offset,((P.info? f.type).map (·.size)).getD 0)) fields.toList).toArray[x]?)=jY P fields from aOO];rw[bkP] at Z6;rw[Z6];rfl
     cases h
    ·rename_i elem
     split at h
     ·rename_i e he
      cases hf:Wd (λi=>some (i*e.size,e.size)) zs ps with
      |none=>rw[hf] at h;cases h
      |some cs=>
       rw[hf] at h;cases h;obtain⟨us,Z6,hur⟩:=fG hf hzr hp;refine⟨.agg us.toArray,?_,.agg hur⟩;unfold bsC;rw[bkP] at Z6;simp[zeroValue,typeInfo,hi,hz,run_underlying hu,CN he,Z6]
     cases h
    cases h
   cases h
  cases h
 cases h
end AI
namespace AI
open Go Go.RowKit
def abL{c:Cx}{w:World}{zs:List AV}{vs:List Value}(h:Cw c w zs vs)(m:Nat)(hm:m≠0->zs≠[]) :
   Cw c w ((bjD m).map λi=>zs.getD (i % zs.length) (.sc undef)) ((bjD m).map λi=>vs.toArray[i % vs.toArray.size]!):=by
 refine Cw.auO (by simp) (λi a v h1 h2=>?_);rw[biH] at h1 h2;cases hr:(bjD m)[i]? with
 |none=>rw[hr] at h1;cases h1
 |some j=>
  rw[hr] at h1 h2;simp only[bhK,atS] at h1 h2;have hj:j < m:=bkI.1 (aWR hr);have hne:=hm (by omega);have hlen:zs.length≠0:=λe=>hne (biJ e);have hlt:j % zs.length < zs.length:=Nat.mod_lt _ (by omega);have hl:=h.len;have hg:zs[j % zs.length]?=some (zs[j % zs.length]'hlt):=aBD hlt;obtain⟨v',hv',hrv⟩:=h.get hg;rw[bjP,hg] at h1;subst h1;rw[bjY,hl] at h2
  have:vs.toArray[j % zs.length]! = v':=by rw[getElem!_def,bkS,hv']
  rw[this] at h2;subst h2;exact hrv
def N4(P:Program)(t:TypeId)(len:Nat)(parts:List (Nat×AV)):Option AV :=
 match P.underlying t with
 |some (.slice elem)=>match P.info? elem with
  |some e=>if len*e.size<=16777216 then
   (if len*e.size=0 then (if len=0/\parts.isEmpty=true then some (.sl .full 0 []) else none) else match e.zero with
    |some z=>match NM z.cells.toList with|some zs=>if zs.isEmpty=true then none else (Wd (λi=>some (i*e.size,e.size)) ((bjD (len*e.size)).map λi=>zs.getD (i % zs.length) (.sc undef)) parts).map (.sl .full len)|none=>none
    |none=>none)
   else none
  |none=>none
 |_=>none
def fD{P:Program}{G:AN}{c:Cx}{w:World}{s:AS}{t:TypeId}{len:Nat}{ps:List (Nat×AV)}{r:AV}{qs:Array (Nat×Value)}(hs:St G c w s)(h:N4 P t len ps=some r)(hp:PL c w ps qs.toList) :
   ∃u w',(bnY t len qs).run P w=.ok u w'/\Ext c w c w'/\St G c w' s/\Rp c w' r u:=by
 unfold N4 at h;split at h
 ·rename_i elem hu
  split at h
  ·rename_i e he
   split at h
   ·rename_i h24
    split at h;rename_i h0;split at h;rename_i hz;cases h
    have hq:qs.toList=[]:=by
     have nS:ps=[]:=List.isEmpty_iff.1 hz.2;subst nS;have:∀l,PL c w [] l->l=[]:=λl h=>by cases h;rfl
     exact this _ hp
    obtain⟨rfl,_⟩:=hz;obtain⟨x,st⟩:=hs.same (PU w (.cells #[] elem));refine⟨.slice (some ⟨w.heap.size,0,none⟩) 0 0,_,?_,x,st,.sl0 rfl⟩;have hz0:bpG 0=#[]:=rfl;simp[bnY,run_underlying hu,CN he,hq,bqD,newRow,hz0];cases h
    ·rename_i h0
     split at h
     ·rename_i z hz
      split at h
      ·rename_i zs hzs
       split at h;cases h
       ·rename_i hne
        have hzr:=Tl hzs c w;have hin:=abL hzr (len*e.size) (λ_ hn=>hne (by rw[hn];rfl));simp only[bkP] at hin;cases hf:Wd (λi=>some (i*e.size,e.size)) ((bjD (len*e.size)).map λi=>zs.getD (i % zs.length) (.sc undef)) ps with
        |none=>rw[hf] at h;cases h
        |some cs=>
         rw[hf] at h;cases h;obtain⟨us,Z6,hur⟩:=fG hf hin hp;obtain⟨x,st⟩:=hs.same (PU w (.cells us.toArray elem));refine⟨.slice (some ⟨w.heap.size,0,none⟩) len len,_,?_,x,st,.Lt (aWP _) (A0.Tm (hur.mono x) (λi v hv=>by rw[bhC];exact hs.aGG us elem hv)) rfl⟩
         have arL:(bpG (len*e.size)).map (λi=>z.cells[i % z.cells.size]!)=((bjD (len*e.size)).map λi=>z.cells[i % z.cells.size]!).toArray:=by apply bjG;simp
         rw[<- arL] at Z6;have bcE:¬16777216 < len*e.size:=by omega
         unfold bnY;simp only[biG,run_underlying hu,biD,CN he,Sem.run_ite,gt_iff_lt,show(2:Nat) ^ 24=16777216 from rfl,bcE,if_false,bjJ,h0,zeroValue,typeInfo,run_program,hz,he,Z6];simp[newRow]
      cases h
     cases h
   cases h
  cases h
 cases h
def UA(P:Program)(st:TypeId)(a:AV)(k:Nat):Option AV :=
 match P.underlying st with
 |some (.struct fields)=>match fields.toList[k]? with
  |some f=>match P.info? f.type with
   |some i=>if i.size=0 then none else match a with|.ptr id off=>some (.ptr id (off+f.offset))|.el cs=>some (.el (cs.drop f.offset))|_=>none
   |none=>none
  |none=>none
 |_=>none
def vF{P:Program}{c:Cx}{w:World}{st:TypeId}{a r:AV}{k:Nat}{v:Value}(h:UA P st a k=some r)(ha:Rp c w a v):∃u,(bqW st v k).run P w=.ok u w/\Rp c w r u:=by
 unfold UA at h;split at h
 ·rename_i fields hu
  split at h
  ·rename_i f hf
   split at h
   ·rename_i i hi
    split at h;cases h
    ·rename_i h0
     have lM:fields[k]?=some f:=by rw[<- biO];exact hf
     split at h
     ·cases h
      cases ha with
      |ptr hid=>
       refine⟨_,?_,.ptr hid⟩;simp[bqW,run_underlying hu,lM,bkV,fieldPlace,CN hi,h0,add_lit]
     ·cases h
      cases ha with
      |el hc=>
       refine⟨_,?_,.el (hc.drop f.offset)⟩;simp[bqW,run_underlying hu,lM,bkV,fieldPlace,CN hi,h0,add_lit]
     cases h
   cases h
  cases h
 cases h
def fF(P:Program)(st:TypeId)(a:AV)(k:Nat):Option AV :=
 match P.underlying st with
 |some (.struct fields)=>match fields.toList[k]? with
  |some f=>match a with|.agg cs=>apart P f.type cs f.offset|_=>none
  |none=>none
 |_=>none
def akF{P:Program}{c:Cx}{w:World}{st:TypeId}{a r:AV}{k:Nat}{v:Value}(h:fF P st a k=some r)(ha:Rp c w a v)(w0:World):∃u,(Instr.field st v k).run P w0=.ok u w0/\Rp c w r u:=by
 unfold fF at h;split at h
 ·rename_i fields hu
  split at h
  ·rename_i f hf
   split at h
   ·cases ha with
    |agg hr=>
     have lM:fields[k]?=some f:=by rw[<- biO];exact hf
     obtain⟨u,h1,h2⟩:=fJ h hr w0;exact⟨u,by simp[Instr.field,run_underlying hu,lM,asAgg,h1],h2⟩
   cases h
  cases h
 cases h
def Uc:AV->Option Nat
 |.sc (.int _ i)=>if 0<=i then some i.toNat else none
 |_=>none
def Pj{c:Cx}{w:World}{a:AV}{v:Value}{n:Nat}(h:Uc a=some n)(ha:Rp c w a v):∃k i,v=.int k i/\0<=i/\i.toNat=n:=by unfold Uc at h;split at h;rename_i k i;split at h;rename_i h0;cases h;cases ha;exact⟨k,i,rfl,h0,rfl⟩;cases h;cases h
def CQ(P:Program)(t:TypeId)(x ix:AV):Option AV :=
 match P.underlying t,Uc ix with
 |some (.slice elem),some i=>match P.info? elem,x with|some e,.sl _ n cs=>if i < n then some (.el (cs.drop (i*e.size))) else none|some e,.Im id off n=>if i < n then some (.ptr id (off+i*e.size)) else none|_,_=>none
 |some (.array len elem),some i=>match P.info? elem,x with|some e,.ptr id off=>if i < len then some (.ptr id (off+i*e.size)) else none|some e,.el cs=>if i < len then some (.el (cs.drop (i*e.size))) else none|_,_=>none
 |_,_=>none
def vG{P:Program}{c:Cx}{w:World}{t:TypeId}{x ix r:AV}{v vi:Value}(h:CQ P t x ix=some r)(hx:Rp c w x v)(hi:Rp c w ix vi):∃u,(bnE t v vi).run P w=.ok u w/\Rp c w r u:=by
 unfold CQ at h;split at h
 ·rename_i elem i hu hn
  obtain⟨k,z,rfl,hz0,rfl⟩:=Pj hn hi;split at h
  ·rename_i e n cs he
   split at h
   ·rename_i hlt
    cases h;have hz1:z < (n:Int):=by omega
    cases hx with
    |sl0=>omega
    |Lt hn hc ho=>
     refine⟨_,?_,.el (hc.drop _)⟩;simp[bnE,asIntOf,run_underlying hu,hz0,hz1,CN he,add_lit]
   cases h
  ·rename_i e id off n he
   split at h
   ·rename_i hlt
    cases h;have hz1:z < (n:Int):=by omega
    cases hx with
    |Im hn hid=>
     refine⟨_,?_,.ptr hid⟩;simp[bnE,asIntOf,run_underlying hu,hz0,hz1,CN he,add_lit]
   cases h
  cases h
 ·rename_i len elem i hu hn
  obtain⟨k,z,rfl,hz0,rfl⟩:=Pj hn hi;split at h
  ·rename_i e id off he
   split at h
   ·rename_i hlt
    cases h;have hz1:z < (len:Int):=by omega
    cases hx with
    |ptr hid=>
     refine⟨_,?_,.ptr hid⟩;simp[bnE,asIntOf,run_underlying hu,hz0,hz1,CN he,add_lit,bkV]
   cases h
  ·rename_i e cs he
   split at h
   ·rename_i hlt
    cases h;have hz1:z < (len:Int):=by omega
    cases hx with
    |el hc=>
     refine⟨_,?_,.el (hc.drop _)⟩;simp[bnE,asIntOf,run_underlying hu,hz0,hz1,CN he,add_lit,bkV]
   cases h
  cases h
 cases h
def MH(P:Program)(t:TypeId)(x ix:AV):Option AV :=
 match P.underlying t,Uc ix with
 |some (.array len elem),some i=>match P.info? elem,x with|some e,.agg cs=>if i < len then apart P elem cs (i*e.size) else none|_,_=>none
 |some .string,some i=>match x with
  |.sc (.string s)=>match s.data.toList[i]? with|some b=>some (.sc (.int .u8 b.toNat))|none=>none
  |_=>none
 |_,_=>none
def akG{P:Program}{c:Cx}{w:World}{t:TypeId}{x ix r:AV}{v vi:Value}(h:MH P t x ix=some r)(hx:Rp c w x v)(hi:Rp c w ix vi)(w0:World):∃u,(bkA t v vi).run P w0=.ok u w0/\Rp c w r u:=by
 unfold MH at h;split at h
 ·rename_i len elem i hu hn
  obtain⟨k,z,rfl,hz0,rfl⟩:=Pj hn hi;split at h
  ·rename_i e cs he
   split at h
   ·rename_i hlt
    have hz1:z < (len:Int):=by omega
    cases hx with
    |agg hr=>
     obtain⟨u,h1,h2⟩:=fJ h hr w0;exact⟨u,by simp[bkA,asIntOf,run_underlying hu,hz0,hz1,CN he,h1],h2⟩
   cases h
  cases h
 rename_i i hu hn;obtain⟨k,z,rfl,hz0,rfl⟩:=Pj hn hi;split at h;rename_i s;split at h;rename_i b hb;cases h;cases hx;refine⟨_,?_,.sc rfl⟩
 have bG:s[z.toNat]?=some b:=by
  rw[<- hb];have hlt:=(aBC.1 hb).1;have hl2:z.toNat < s.size:=by simpa using hlt
  rw[getElem?_pos s z.toNat hl2,aBD hlt];rfl
 simp[bkA,asIntOf,run_underlying hu,hz0,bG];cases h;cases h;cases h
def Uz(x:AV)(k:Nat):Option AV :=
 match x with|.Gx vs=>vs[k]?|_=>none
def vE{P:Program}{c:Cx}{w:World}{x r:AV}{k:Nat}{v:Value}(h:Uz x k=some r)(hx:Rp c w x v)(w0:World):∃u,(bsW v k).run P w0=.ok u w0/\Rp c w r u:=by
 unfold Uz at h;split at h
 ·cases hx with
  |Gx hr=>
   obtain⟨u,h1,h2⟩:=hr.get h;exact⟨u,by simp[bsW,h1],h2⟩
 cases h
end AI
namespace AI
open Go Go.RowKit
def kF:AV->Option Value
 |.sc v=>some v
 |_=>none
def Ry:List AV->Option (List Value)
 |[]=>some []
 |a::as=>match kF a,Ry as with|some v,some vs=>some (v::vs)|_,_=>none
def YI:AV->Option Value
 |.sc v=>some v
 |.agg cs=>(Ry cs).map λl=>.agg l.toArray
 |_=>none
def YH{c:Cx}{w:World}{a:AV}{v u:Value}(h:kF a=some v)(ha:Rp c w a u):u=v:=by unfold kF at h;split at h;cases h;cases ha;rfl;cases h
def kG{c:Cx}{w:World}{as:List AV}{vs us:List Value}(h:Ry as=some vs)(ha:Cw c w as us):us=vs:=by
 induction as generalizing vs us with
 |nil=>simp[Ry] at h;subst h;cases ha;rfl
 |cons a as ih=>
  simp only[Ry] at h;split at h;rename_i v vs' h1 h2;cases h;cases ha with|cons p q=>rw[YH h1 p,ih h2 q]
  cases h
def aaR{c:Cx}{w:World}{a:AV}{v u:Value}(h:YI a=some v)(ha:Rp c w a u):u=v:=by
 unfold YI at h;split at h;cases h;cases ha;rfl
 ·rename_i cs
  cases hc:Ry cs with
  |none=>rw[hc] at h;cases h
  |some l=>
   rw[hc] at h;cases h;cases ha with|agg hr=>rw[kG hc hr]
 cases h
def mI(v:Value):Option AV:=if scalar v then some (.sc v) else none
def uD{v:Value}{a:AV}(h:mI v=some a)(c:Cx)(w:World):Rp c w a v:=by unfold mI at h;split at h;rename_i hs;cases h;exact .sc hs;cases h
def akL(op:BinOp)(x y:ByteArray):Option Value :=
 match op with
 |.add=>if x.data.toList.length+y.data.toList.length<=9223372036854775807 then some (.string ⟨(x.data.toList++y.data.toList).toArray⟩) else none
 |.eql=>some (.bool (x.data.toList == y.data.toList))
 |.neq=>some (.bool (!(x.data.toList == y.data.toList)))
 |.lss=>some (.bool (bqE x.data.toList y.data.toList))
 |.leq=>some (.bool (bqE x.data.toList y.data.toList||x.data.toList == y.data.toList))
 |.gtr=>some (.bool (!(bqE x.data.toList y.data.toList||x.data.toList == y.data.toList)))
 |.geq=>some (.bool (!(bqE x.data.toList y.data.toList)))
 |_=>none
def Wb(P:Program)(op:BinOp)(t:TypeId)(xo yo:Operand)(a b:AV):Option AV :=
 match a,b with|.sc (.string x),.sc (.string y)=>(akL op x y).bind mI|a,b=>match YI a,YI b with|some u,some v=>(pv P (do eqGuard op t xo yo u v;binOp op t u v)).bind mI|_,_=>none
def qG(x y:ByteArray):x++y=⟨(x.data.toList++y.data.toList).toArray⟩:=by apply ByteArray.ext;simp
def aoG{P:Program}{c:Cx}{w:World}{op:BinOp}{t:TypeId}{xo yo:Operand}{a b r:AV}{u v:Value}(h:Wb P op t xo yo a b=some r)(ha:Rp c w a u)(hb:Rp c w b v)(w0:World) :
   ∃z,(do eqGuard op t xo yo u v;binOp op t u v:Sem Value).run P w0=.ok z w0/\Rp c w r z:=by
 unfold Wb at h;split at h
 ·rename_i x y
  cases ha;cases hb;cases hs:akL op x y with
  |none=>rw[hs] at h;cases h
  |some z=>
   rw[hs,Uu] at h;refine⟨z,?_,uD h c w⟩;have hl1:x.data.toList.length=x.size:=by simp
   have hl2:y.data.toList.length=y.size:=by simp
   unfold akL at hs;split at hs;split at hs;rename_i hle;cases hs;rw[hl1,hl2] at hle
   have:¬((x.size+y.size:Nat):Int) > bmL.max:=by show ¬((x.size+y.size:Nat):Int) > 9223372036854775807;omega
   simp[eqGuard,binOp,Op.stringOp,qG];omega;cases hs
   all_goals first
    |(cases hs;simp[eqGuard,binOp,Op.stringOp,ByteArray.toList_eq];done)
    |(cases hs;done)
 ·split at h
  ·rename_i u' v' h1 h2
   have e1:=aaR h1 ha;have e2:=aaR h2 hb;subst e1 e2;cases hp:pv P (do eqGuard op t xo yo u v;binOp op t u v) with
   |none=>rw[hp] at h;cases h
   |some z=>
    rw[hp,Uu] at h;exact⟨z,avE _ hp w0,uD h c w⟩
  cases h
def aYX:Operand->Bool
 |.const (.slice none 0 0)=>true
 |_=>false
def azK(P:Program)(op:BinOp)(t:TypeId)(yo:Operand)(z:Bool):Option AV:=match aYX yo,P.underlying t with
 |true,some (.slice _)=>(match op with|.eql=>some (.sc (.bool z))|.neq=>some (.sc (.bool (!z)))|_=>none)
 |_,_=>none
def N3(P:Program)(op:BinOp)(t:TypeId)(xo yo:Operand)(a b:AV):Option AV :=
 match a with|.sl .nil _ _=>azK P op t yo true|.sl .nn _ _=>azK P op t yo false|a=>Wb P op t xo yo a b
def qE{P:Program}{op:BinOp}{t:TypeId}{xo yo:Operand}{z:Bool}{r:AV}{A:Option Addr}{n cap:Nat}{v:Value}(h:azK P op t yo z=some r)(hA:A.isNone=z)(hy:∀k,yo=.const k->v=k)(c:Cx)(w w0:World) :
   ∃q,(do eqGuard op t xo yo (.slice A n cap) v;binOp op t (.slice A n cap) v:Sem Value).run P w0=.ok q w0/\Rp c w r q:=by
 unfold azK at h;split at h;rename_i e hn hu
 have hv:v=.slice none 0 0:=by unfold aYX at hn;split at hn;exact hy _ rfl;cases hn
 subst hv
 have Sb:(Op.equal t (.slice A n cap) (.slice none 0 0)).run P w0=.ok z w0:=by unfold Op.equal;obtain⟨d,hd⟩:∃d,Op.maxDepth=d+1:=⟨_,rfl⟩;rw[hd];unfold Op.equalIn;rw[biG,run_underlying hu,biD];cases A with|none=>simp only[Option.isNone_none] at hA;subst hA;rfl|some a=>simp only[Option.isNone_some] at hA;subst hA;rfl
 split at h;cases h;exact⟨.bool z,by simp only[eqGuard,binOp];rw[biG];simp[Sb],.sc rfl⟩;cases h;exact⟨.bool !z,by simp only[eqGuard,binOp];rw[biG];simp[Sb],.sc rfl⟩;cases h;cases h
def azH{P:Program}{c:Cx}{w:World}{op:BinOp}{t:TypeId}{xo yo:Operand}{a b r:AV}{u v:Value}(h:N3 P op t xo yo a b=some r)(ha:Rp c w a u)(hb:Rp c w b v)(hy:∀k,yo=.const k->v=k)(w0:World) :
   ∃z,(do eqGuard op t xo yo u v;binOp op t u v:Sem Value).run P w0=.ok z w0/\Rp c w r z:=by
 unfold N3 at h;split at h;cases ha with|sl0 h0=>exact qE h h0 hy c w w0|Lt _ _ ho=>exact ho.elim
 cases ha with|sl0 h0=>exact qE h h0 hy c w w0|Lt _ _ ho=>exact qE h rfl hy c w w0
 exact aoG h ha hb w0
def ZZ(P:Program)(s:Sem Value):Option AV:=(pv P s).bind mI
def XT{P:Program}{s:Sem Value}{r:AV}(h:ZZ P s=some r)(c:Cx)(w w0:World):∃z,s.run P w0=.ok z w0/\Rp c w r z:=by
 unfold ZZ at h;cases hp:pv P s with
 |none=>rw[hp] at h;cases h
 |some z=>
  rw[hp,Uu] at h;exact⟨z,avE _ hp w0,uD h c w⟩
def PP(d:Nat):Option AV->Option Nat
 |none=>some d
 |some a=>Uc a
inductive RO(c:Cx)(w:World):Option AV->Option Value->Prop where
 |none:RO c w none none
 |some {a:AV}{v:Value} (h:Rp c w a v):RO c w (some a) (some v)
def Nn(P:Program)(t:TypeId)(x:AV)(lo hi mx:Option AV):Option AV :=
 match P.underlying t with
 |some .string=>match x with
  |.sc (.string s)=>match mx,PP 0 lo,PP s.data.toList.length hi with|none,some l,some h=>if l<=h/\h<=s.data.toList.length then some (.sc (.string ⟨((s.data.toList.drop l).take (h - l)).toArray⟩)) else none|_,_,_=>none
  |_=>none
 |some (.slice elem)=>match P.info? elem,x with
  |some e,.sl own n cs=>match PP 0 lo,PP n hi with
   |some l,some h=>if l<=h/\h<=n/\cs.length=n*e.size then
    (match mx with|none=>some (.sl (if l=0/\h=n then own else if h=n/\own=.full then .full else .lost) (h - l) ((cs.drop (l*e.size)).take ((h - l)*e.size)))|some m=>match Uc m with|some m=>if h=m/\hi.isSome=true then some (.sl .full (h - l) ((cs.drop (l*e.size)).take ((h - l)*e.size))) else none|none=>none)
    else none
   |_,_=>none
  |_,_=>none
 |_=>none
def Vw(d:Nat)(o:Option Value)(n:Nat):Prop:=(o=none/\n=d)\/∃k i,o=some (.int k i)/\0<=i/\i.toNat=n
def Vx{c:Cx}{w:World}{d n:Nat}{a:Option AV}{v:Option Value}(h:PP d a=some n)(ha:RO c w a v):Vw d v n:=by
 cases ha with
 |none=>simp[PP] at h;exact .inl ⟨rfl,h.symm⟩
 |some h1=>
  obtain⟨k,i,rfl,h2,h3⟩:=Pj h h1;exact .inr ⟨k,i,rfl,h2,h3⟩
def K3{P:Program}(k:IntKind)(i:Int)(y:Nat)(code:BoundsCode)(w:World)(h0:0<=i)(h1:i.toNat<=y):(brS (.int k i) y code).run P w=.ok i.toNat w:=by
 have:i<=(y:Int):=by omega
 simp[brS,asIntOf,h0,this]
def Xl{P:Program}{isSlice:Bool}{len cap l h:Nat}{lo hi:Option Value}(hlo:Vw 0 lo l)(hhi:Vw len hi h)(hle:l<=h)(hh:h<=cap)(w:World) :
   (blC isSlice len cap lo hi none).run P w=.ok (l,h,cap) w:=by
 rcases hlo with ⟨rfl,rfl⟩ | ⟨k,i,rfl,K7,rfl⟩<;>rcases hhi with ⟨rfl,rfl⟩ | ⟨k',i',rfl,arR,rfl⟩
 simp[blC];simp[blC,K3 k' i' cap _ w arR hh];simp[blC,K3 k i h _ w K7 hle];simp[blC,K3 k' i' cap _ w arR hh,K3 k i _ _ w K7 hle]
def aaA{P:Program}{isSlice:Bool}{len cap l h:Nat}{lo hi:Option Value}{k:IntKind}{j:Int}(hlo:Vw 0 lo l)(hhi:∃k i,hi=some (.int k i)/\0<=i/\i.toNat=h)(hle:l<=h)(hj:0<=j)(hh:h<=j.toNat)(hc:j.toNat<=cap)(w:World) :
   (blC isSlice len cap lo hi (some (.int k j))).run P w=.ok (l,h,j.toNat) w:=by
 obtain⟨k',i',rfl,arR,rfl⟩:=hhi;rcases hlo with ⟨rfl,rfl⟩ | ⟨k2,i,rfl,K7,rfl⟩
 simp[blC,K3 k j cap _ w hj hc,K3 k' i' _ _ w arR hh];simp[blC,K3 k j cap _ w hj hc,K3 k' i' _ _ w arR hh,K3 k2 i _ _ w K7 hle]
def take_nil{c:Cx}{w:World}{g o:Nat}{cs:List AV}(l n:Nat)(h:A0 c w g o cs):A0 c w g (o+l) ((cs.drop l).take n):=(h.drop l).take n
def akJ{P:Program}{c:Cx}{w:World}{t:TypeId}{x r:AV}{lo hi mx:Option AV}{v:Value}{lo' Sc mx':Option Value}(h:Nn P t x lo hi mx=some r)(hx:Rp c w x v)(hlo:RO c w lo lo')(hhi:RO c w hi Sc)(hmx:RO c w mx mx') :
   ∃u,(bmR t v lo' Sc mx').run P w=.ok u w/\Rp c w r u:=by
 unfold Nn at h;split at h;rename_i hu;split at h;rename_i s;split at h;rename_i l hh e1 e2;split at h;rename_i hc;cases h;cases hx;cases hmx;have b1:=Vx e1 hlo;have b2:=Vx e2 hhi;rw[show s.data.toList.length=s.size from by simp] at b2 hc;refine⟨_,?_,.sc rfl⟩;simp only[bmR,biG,run_underlying hu,biD,bqN,Option.isSome_none,biF,if_false,Xl b1 b2 hc.1 hc.2,bjJ];congr 2;apply ByteArray.ext;apply bjG;rw[Lib.extract_data];cases h;cases h;cases h
 ·rename_i elem hu
  split at h
  ·rename_i e own n cs he
   split at h
   ·rename_i l hh e1 e2
    split at h
    ·rename_i hc
     have b1:=Vx e1 hlo;have b2:=Vx e2 hhi
     have Ud:∀(A:Option Addr)(cap:Nat),n<=cap->mx'=none->(bmR t (.slice A n cap) lo' Sc mx').run P w=.ok (.slice (if cap=l then A else A.map (·.add (l*e.size))) (hh - l) (cap - l)) w:=by intro A cap wU hm;subst hm;simp only[bmR,biG,run_underlying hu,biD,bqN,Xl b1 b2 hc.1 (biP hc.2.1 wU),bjJ,CN he]
     split at h
     ·cases h
      cases hmx;cases hx with
      |sl0 h0=>
       obtain⟨rfl,rfl⟩:l=0/\hh=0:=by omega
       refine⟨_,Ud _ _ (bjI _) rfl,?_⟩;simp only[bqX,bsX,bnO,if_true,and_self];exact .sl0 (h0.re (by split<;>simp))
      |Lt hn UU ho=>
       rename_i cap g o;refine⟨_,Ud _ _ hn rfl,?_⟩;by_cases IN:l=0/\hh=n;obtain⟨rfl,rfl⟩:=IN;simp only[Nat.zero_mul,List.drop_zero,bnO,and_self,if_true];rw[List.take_of_length_le (by rw[hc.2.2];exact aWP _)]
       have:(if cap=0 then some (⟨g,o,none⟩:Addr) else Option.map (λx:Addr=>x.add 0) (some ⟨g,o,none⟩))=some ⟨g,o,none⟩:=by split;rfl;simp[Addr.add]
       rw[this];exact .Lt hn UU ho;rw[if_neg IN];by_cases hz:hh - l=0;have rM:((cs.drop (l*e.size)).take ((hh - l)*e.size))=[]:=by rw[hz];simp
       rw[rM,hz];by_cases hf:hh=n/\own=.full;rw[if_pos hf];obtain⟨rfl,rfl⟩:=hf;have:cap=hh:=ho;exact .sl0 (by show cap - l=0;omega);rw[if_neg hf];exact .sl0 trivial;have hne:¬cap=l:=by omega
       rw[if_neg hne];simp only[bhK,add_lit];refine .Lt (by omega) ((UU.drop _).take _) ?_;by_cases hf:hh=n/\own=.full;rw[if_pos hf];obtain⟨rfl,rfl⟩:=hf;have:cap=hh:=ho;show cap - l=hh - l;omega;rw[if_neg hf];trivial
     ·rename_i m
      split at h
      ·rename_i j hj
       split at h
       ·rename_i hjm
        cases h;obtain⟨rfl,aXN⟩:=hjm;cases hmx with
        |some hm=>
         obtain⟨k,z,rfl,hz0,hz1⟩:=Pj hj hm
         have WQ:∃k i,Sc=some (.int k i)/\0<=i/\i.toNat=hh:=by
          cases hhi with
          |none=>cases aXN
          |some h1=>
           obtain⟨k,i,rfl,h2,h3⟩:=Pj e2 h1;exact⟨k,i,rfl,h2,h3⟩
         have aIZ:∀(A:Option Addr)(cap:Nat),n<=cap->(bmR t (.slice A n cap) lo' Sc (some (.int k z))).run P w=.ok (.slice (if hh=l then A else A.map (·.add (l*e.size))) (hh - l) (hh - l)) w:=by intro A cap wU;simp only[bmR,biG,run_underlying hu,biD,bqN,aaA b1 WQ hc.1 hz0 (Nat.le_of_eq hz1.symm) (by rw[hz1];exact biP hc.2.1 wU),bjJ,CN he];rw[hz1]
         cases hx with
         |sl0 h0=>
          obtain⟨rfl,rfl⟩:l=0/\hh=0:=by omega
          refine⟨_,aIZ _ _ (bjI _),?_⟩;simp only[bqX,bsX,bnO,if_true];exact .sl0 rfl
         |Lt hn UU ho=>
          refine⟨_,aIZ _ _ hn,?_⟩;by_cases hz:hh - l=0;have rM:((cs.drop (l*e.size)).take ((hh - l)*e.size))=[]:=by rw[hz];simp
          rw[rM,hz];exact .sl0 rfl;rw[if_neg (by omega)];simp only[bhK,add_lit];exact .Lt (aWP _) ((UU.drop _).take _) rfl
       cases h
      cases h
    cases h
   cases h
  cases h
 cases h
end AI
namespace AI
open Go Go.RowKit
def bB(P:Program)(s:AS)(size:Nat)(tx:TypeId)(b:AV):Option (Nat×List AV) :=
 match P.underlying tx,b with
 |some (.slice _),.sl _ n cs=>if cs.length=n*size then some (n,cs) else none
 |some (.slice _),.Im id off n=>match s.get id with|some (.cells cs)=>if off+n*size<=cs.length then some (n,(cs.drop off).take (n*size)) else none|_=>none
 |some .string,.sc (.string x)=>if size=1 then some (x.data.toList.length,x.data.toList.map λb=>.sc (.int .u8 b.toNat)) else none
 |_,_=>none
def aoX(c:Cx)(w:World)(l:List UInt8):Cw c w (l.map λb=>.sc (.int .u8 b.toNat)) (l.map λb=>.int .u8 b.toNat):=by induction l with|nil=>exact .nil|cons b l ih=>exact .cons (.sc rfl) ih
structure aoC(P:Program)(size:Nat)(tx:TypeId)(x:Value)(n:Nat)(news:List Value)(w:World):Prop where
 kind:(∃e',P.underlying tx=some (.slice e'))\/P.underlying tx=some .string
 len:∀w':World,(bsY x).run P w'=.ok n w'
 cells:∀w':World,w'.heap=w.heap->(bjN size n x).run P w'=.ok news.toArray w'
def qH{P:Program}{G:AN}{c:Cx}{w:World}{s:AS}{size:Nat}{tx:TypeId}{b:AV}{x:Value}{n:Nat}{cs:List AV}(hs:St G c w s)(h:bB P s size tx b=some (n,cs))(hb:Rp c w b x) :
   ∃news,Cw c w cs news/\news.length=n*size/\aoC P size tx x n news w:=by
 unfold bB at h;split at h
 ·rename_i e own n' cs' hu
  split at h
  ·rename_i hl
   cases h;cases hb with
   |@sl0 _ A cap _=>
    refine⟨[],.nil,by simp,.inl ⟨_,hu⟩,λ_=>rfl,λw' _=>?_⟩;cases A with|none=>simp[bjN]|some a=>simp[bjN,loadCells,loadCellsFrom]
   |Lt hn hc ho=>
    obtain⟨vs,hr,H8⟩:=hc.vals;have hlv:=hr.len;refine⟨vs,hr,by omega,.inl ⟨_,hu⟩,λ_=>rfl,λw' hw=>?_⟩;refine run_firstCells_some w' size n _ n _ vs (by omega) (λj v hj=>?_);rw[add_lit];have:=(H8 j v hj).2.2;rw[bmB (w:=w) (by rw[hw])];exact this
  cases h
 ·rename_i e id off n' hu
  split at h
  ·rename_i cs' bG
   split at h
   ·rename_i hl
    cases h;cases hb with
    |Im hn hid=>
     obtain⟨vs,ext,T,hw,hr⟩:=Vz hs hid bG;have hlv:=hr.len;have hll:((vs.drop off).take (n*size)).length=n*size:=by rw[biM,bhI];omega
     refine⟨(vs.drop off).take (n*size),(hr.drop off).take _,hll,.inl ⟨_,hu⟩,λ_=>rfl,λw' vB=>?_⟩;refine run_firstCells_some w' size n _ n _ _ hll (λj v hj=>?_);rw[add_lit]
     have hj2:vs[off+j]?=some v:=by rw[bkY] at hj;split at hj;rw[blL] at hj;exact hj;cases hj
     exact cell_of_heap (by rw[vB];exact hw) (XR hj2)
   cases h
  cases h
 rename_i x' hu;split at h;rename_i h1;cases h;cases hb;subst h1;refine⟨_,aoX c w _,by simp,.inr hu,λ_=>by simp[bsY],λw' _=>?_⟩;simp only[bjN];rw[show x'.data.toList.length=x'.size from by simp];simp;apply bjG;simp;cases h;cases h
def AS.grow(s:AS)(r n:Nat):AS:=⟨s.h,s.nx,amR r n s.F,s.nr⟩
def AS.add(s:AS)(n:Nat):AS:=⟨s.h,s.nx,(s.nr,n)::s.F,s.nr+1⟩
section
variable {G:AN}{c:Cx}{w:World}{s:AS}
def St.tZ(h:St G c w s){r n:Nat}(hr:DV r s.F=some n):r < c.rows.length:=by
 rcases h.IZ r n hr with h1 | ⟨g,cap,sz,h1⟩
 exact(aBC.1 h1.1).1;exact(aBC.1 h1).1
def M9{l:List Rw}{r r':Nat}{x y:Rw}(h:(l.set r x)[r']?=some y):(r'=r/\y=x/\r < l.length)\/(r'≠r/\l[r']?=some y):=by by_cases e:r=r';subst e;have hl:=(aBC.1 h).1;rw[List.length_set] at hl;rw[biW hl] at h;exact .inl ⟨rfl,(biA h).symm,hl⟩;rw[bjB e] at h;exact .inr ⟨λx=>e x.symm,h⟩
def St.uA(h:St G c w s){r n0:Nat}(hF:DV r s.F=some n0){w':World}{g n cap sz:Nat}{vs:Array Value}{T:TypeId}(k:Ut w w' (λx=>x=g))(hb:c.base<=g)(hp:some g∉c.Ce)(hlt:n0 < n)(hlh:n<=cap)(hw:w'.heap[g]?=some (.cells vs T (0,0)))(hsz:vs.size=cap*sz)
   (hg:g=w.heap.size\/(c.rows[r]?=some (.Sk g n0 cap sz)/\∀i v,i < n0*sz->w.cell? ⟨g,i,none⟩=some v->vs[i]?=some v)):
   Ext c w { c with rows:=c.rows.set r (.Sk g n cap sz) } w'/\St G { c with rows:=c.rows.set r (.Sk g n cap sz) } w' (s.grow r n):=by
 have bhM:g < w'.heap.size:=(aPB.1 hw).1;have xA:=h.tZ hF
 have acT:∀(r':Nat) n' cap' OI,c.rows[r']?=some (.Sk g n' cap' OI)->r'=r:=by
  intro r' n' cap' OI hr;rcases hg with rfl | ⟨hr0,_⟩
  have:=h.NE hr;omega;exact h.Ie r' r g _ _ _ _ _ _ hr hr0
 have e:Ext c w { c with rows:=c.rows.set r (.Sk g n cap sz) } w':=by
  refine⟨blK _,by simp,λr' y hr hy=>?_,λg' i v hv=>⟨beL hv.1 k.size,λhs=>?_,?_⟩,k.below h.Sa (λx hx=>by rw[hx];exact hb),rfl,rfl,λ_ h=>.inl h,λr' g' n' cap' OI hr=>?_,λq hq _ hr=>?_⟩;rcases M9 hy with ⟨rfl,rfl,_⟩ | ⟨_,h1⟩
  rcases h.IZ r' n0 hF with ⟨h1,_⟩ | ⟨g1,aUU,sz1,h1⟩
  exact⟨_,h1,.inr (.inl rfl)⟩;exact⟨_,h1,.inr (.inr ⟨_,_,_,_,rfl,hlt⟩)⟩;exact⟨y,h1,L6.refl y⟩
  ·rcases hs with hs | ⟨r',n',cap',OI,hr,h1,h2⟩ | hs
   exact hv.2.1 (.inl hs);rotate_left;exact hv.2.1 (.inr (.inr hs));rcases M9 hr with ⟨rfl,h3,_⟩ | ⟨_,h3⟩
   injection h3 with e1 e2 e3 e4
   subst e1 e2 e3 e4;rcases hg with rfl | ⟨hr0,_⟩
   have:=hv.1;omega;have:=bkQ OI (boP hlt);exact hv.2.1 (.inr (.inl ⟨r',n0,cap',OI,hr0,by omega,h2⟩));exact hv.2.1 (.inr (.inl ⟨r',n',cap',OI,h3,h1,h2⟩))
  by_cases hgg:g'=g;subst hgg;rcases hg with rfl | ⟨hr0,aXC⟩
  have:=hv.1;omega
  have hi1:i < n0*sz:=by by_cases hlt:i < n0*sz;exact hlt;exfalso;obtain⟨_,_,_,_,vs0,T0,hh0,bhQ⟩:=h.row r g' n0 cap sz hr0;have hc:=hv.2.2;have hns:¬i < cap*sz:=λbdE=>hv.2.1 (.inr (.inl ⟨r,n0,cap,sz,hr0,by omega,bdE⟩));simp[bjZ,hh0] at hc;have:=(aPB.1 hc).1;omega
  have:=aXC i v hi1 hv.2.2;simp[bjZ,hw,this];rw[k.cell hv.1 hgg];exact hv.2.2;rcases M9 hr with ⟨rfl,h1,_⟩ | ⟨_,h1⟩
  injection h1 with e1 _
  subst e1;rcases hg with rfl | ⟨hr0,_⟩
  exact .inr (aWP _);exact .inl ⟨r',n0,_,_,hr0⟩;exact .inl ⟨r',n',cap',OI,h1⟩;refine k.block q hq (λe=>?_);subst e;rcases hg with rfl | ⟨hr0,_⟩
  omega;exact hr r _ _ _ hr0
 refine⟨e,⟨h.len,h.desc,h.nodup,h.low,λid g' b' h1 h2=>?_,by simp[AS.grow,h.Ia],λr' g' n' cap' OI hr=>?_,λr' n' hr=>?_,λg hg=>beL (h.NA g hg) k.size,λg i hb=>beL (h.Ng g i hb) k.size,λr1 r2 g' n1 c1 s1 n2 c2 s2 hr dB=>?_,λg' cs gZ=>(h.Nh g' cs gZ).mono e,biP h.Sa k.size,h.ON.mono e⟩⟩;obtain⟨o',ho,bG⟩:=h.box id g' b' h1 h2;exact⟨o',by rw[k.block g' (aPB.1 ho).1 (λe=>hp (by rw[<- e];exact aWR h1))];exact ho,bG.mono e⟩;rcases M9 hr with ⟨rfl,h2,_⟩ | ⟨hne,h1⟩
 injection h2 with e1 e2 e3 e4
 subst e1 e2 e3 e4;refine⟨λi L7=>?_,hb,hp,hlh,vs,T,hw,hsz⟩;rcases hg with rfl | ⟨hr0,_⟩
 have:=h.Ng _ i L7;omega;exact(h.row r' _ _ _ _ hr0).1 i L7;obtain⟨a1,a2,a3,a4,vs',T',ho,a5⟩:=h.row r' g' n' cap' OI h1
 have hne:¬g'=g:=λe=>by
  subst e;exact hne (acT r' _ _ _ h1)
 exact⟨a1,a2,a3,a4,vs',T',by rw[k.block g' (aPB.1 ho).1 hne];exact ho,a5⟩;rcases oT hr with ⟨rfl,rfl,_⟩ | ⟨hne,h2⟩
 exact .inr ⟨g,cap,sz,biW xA⟩;simp only;rw[bjB (λe=>hne e.symm)];exact h.IZ r' n' h2;rcases M9 hr with ⟨rfl,h2,_⟩ | ⟨hn1,h1⟩<;>rcases M9 dB with ⟨rfl,h4,_⟩ | ⟨hn2,h3⟩
 rfl;injection h2 with e1
 subst e1;exact(acT r2 _ _ _ h3).symm;injection h4 with e1
 subst e1;exact acT r1 _ _ _ h1;exact h.Ie r1 r2 g' _ _ _ _ _ _ h1 h3
def St.aDW(h:St G c w s){w':World}{n cap sz:Nat}{vs:Array Value}{T:TypeId}(k:Ut w w' (λx=>x=w.heap.size))(hn:0 < n)(hlh:n<=cap)(hw:w'.heap[w.heap.size]?=some (.cells vs T (0,0)))(hsz:vs.size=cap*sz) :
   Ext c w { c with rows:=c.rows++[.Sk w.heap.size n cap sz] } w'/\St G { c with rows:=c.rows++[.Sk w.heap.size n cap sz] } w' (s.add n):=by
 obtain⟨e1,st1⟩:=h.tok
 have hl:DV s.nr s.tok.F=some 0:=by simp only[AS.tok,DV];split;rfl;rename_i hb;exact absurd rfl (beq_false hb)
 have hp:some w.heap.size∉c.Ce:=λhm=>by have:=h.OY hm;omega
 obtain⟨e2,XI⟩:=st1.uA hl (g:=w.heap.size) (n:=n) (cap:=cap) (sz:=sz) k h.Sa hp hn hlh hw hsz (.inl rfl)
 have hs:(c.rows++[Rw.new]).set s.nr (.Sk w.heap.size n cap sz)=c.rows++[.Sk w.heap.size n cap sz]:=by rw[h.Ia,blH _ _ (aWP _)];simp
 have hf:s.tok.grow s.nr n=s.add n:=by simp only[AS.tok,AS.grow,AS.add,amR];have:biS s.nr s.nr=true:=blD _;rw[this]
 simp only[hs] at e2 XI;rw[hf] at XI;exact⟨e1.trans e2,XI⟩
end
end AI
namespace AI
open Go Go.RowKit
def TM{P:Program}{w:World}{t tx ty e:TypeId}{i:TypeInfo}(ht:P.underlying t=some (.slice e))(hi:P.info? e=some i){base:Option Addr}{n cap m:Nat}{x:Value}{news:List Value}(hs:aoC P i.size tx x m news w)(X5:n+m<=cap){w':World}
   (Dc:∀a,base=some a->(storeCells (a.add (n*i.size)) news).run P w=.ok () w') (hno:base=none->w'=w):
   (bkX #[t,tx] ty #[.slice base n cap,x]).run P w=.ok (.slice base (n+m) cap) w':=by
 have hc:=hs.cells w rfl;cases base with
 |none=>
  have:=hno rfl;subst this;rcases hs.kind with ⟨e',hk⟩ | hk<;>simp[bkX,run_underlying ht,run_underlying hk,boU,typeInfo,hi,hs.len,X5,hc]
 |some a=>
  have:=Dc a rfl;rcases hs.kind with ⟨e',hk⟩ | hk<;>simp[bkX,run_underlying ht,run_underlying hk,boU,typeInfo,hi,hs.len,X5,hc,this]
def TL{P:Program}{w:World}{t tx ty e:TypeId}{i:TypeInfo}{z:Value}(ht:P.underlying t=some (.slice e))(hi:P.info? e=some i)(hz:i.zero=some z){base:Option Addr}{n cap m:Nat}{x:Value}{olds news:List Value}(hs:aoC P i.size tx x m news w)
   (hold:(bjN i.size n (.slice base n cap)).run P { w with drawn:=w.drawn+1 }=.ok olds.toArray { w with drawn:=w.drawn+1 }) (hg:cap < n+m) (h63:n+m<=9223372036854775807) (hb:(n+m)*i.bytes<=140737488355328):
   ∃cap',n+m<=cap'/\(bkX #[t,tx] ty #[.slice base n cap,x]).run P w=.ok (.slice (some ⟨w.heap.size,0,none⟩) (n+m) cap') { w with drawn:=w.drawn+1,heap:=w.heap.push (.cells ((olds++news).toArray++biY z.cells (cap' - (n+m))) e) }:=by
 have hn:¬(n+m<=cap):=by omega
 have bcG:¬(9223372036854775807 < ((n:Int)+(m:Int))):=by omega
 have alG:=growslice_fits hg hb;have bcF:¬(281474976710656 < Builtin.nextslicecap (n+m) cap*i.bytes):=by omega
 have hc:=hs.cells { w with drawn:=w.drawn+1 } rfl
 refine⟨(boW (n+m) cap e).cut (w.tape w.drawn (.appendCap (n+m) cap e)),by simp[Question.cut],?_⟩;have hc2:(bjN i.size m x).run P w.drew=.ok news.toArray w.drew:=hc;have aXG:(bjN i.size n (.slice base n cap)).run P w.drew=.ok olds.toArray w.drew:=hold
 have arL:olds.toArray++(news.toArray++biY z.cells ((boW (n+m) cap e).cut (w.tape w.drawn (.appendCap (n+m) cap e)) - (n+m)))=(olds++news).toArray++biY z.cells ((boW (n+m) cap e).cut (w.tape w.drawn (.appendCap (n+m) cap e)) - (n+m)):=by apply bjG;simp
 rcases hs.kind with ⟨e',hk⟩ | hk <;>
  (simp[bkX,run_underlying ht,run_underlying hk,boU,typeInfo,zeroValue,hi,hz,hs.len,hn,bcG,bcF,Question.forced,hc2,aXG,newRow]
   rw[arL];rfl)
def Qd(sz:Nat)(F:List (Nat×Nat))(n:Nat):Own->Bool
 |.full=>true
 |.row r z=>z == sz&&(match DV r F with | some k=>k == n | none=>false)
 |_=>false
def aJV(s:AS)(sz:Nat):Own->Own
 |.row r _=>.row r sz
 |_=>.row s.nr sz
def AS.to(s:AS)(n:Nat):Own->AS
 |.row r _=>s.grow r n
 |_=>s.add n
def MG(P:Program)(s:AS)(t tx:TypeId)(a b:AV):Option (AV×AS) :=
 match P.underlying t with
 |some (.slice e)=>match P.info? e with
  |some i=>match i.zero with
   |some z=>if z.cells.size=i.size/\0 < i.size then (match a,bB P s i.size tx b with
    |.sl own n cs,some (m,ns)=>if cs.length=n*i.size/\ns.all one=true/\(n+m)*i.bytes<=140737488355328/\n+m<=9223372036854775807 then
     (if m=0 then some (.sl own n cs,s)
      else if Qd i.size s.F n own=true then some (.sl (aJV s i.size own) (n+m) (cs++ns),s.to (n+m) own) else none)
     else none
    |_,_=>none) else none
   |none=>none
  |none=>none
 |_=>none
def Z3{P:Program}{c:Cx}{w:World}{own:Own}{n size:Nat}{cs:List AV}{v:Value}(h:Rp c w (.sl own n cs) v)(hl:cs.length=n*size) :
   ∃base cap olds,v=.slice base n cap/\n<=cap/\Cw c w cs olds/\olds.length=n*size/\∀w':World,w'.heap=w.heap->(bjN size n (.slice base n cap)).run P w'=.ok olds.toArray w':=by
 cases h with
 |@sl0 _ A cap h0=>
  refine⟨A,cap,[],rfl,bjI _,.nil,by simp,λw' _=>?_⟩;cases A with|none=>simp[bjN]|some a=>simp[bjN,loadCells,loadCellsFrom]
 |@Lt _ _ cap g o _ hn hc ho=>
  obtain⟨vs,hr,H8⟩:=hc.vals;have hlv:=hr.len;refine⟨_,cap,vs,rfl,hn,hr,by omega,λw' hw=>run_firstCells_some w' size n _ n _ vs (by omega) (λj v hj=>?_)⟩;rw[add_lit,bmB (w:=w) (by rw[hw])];exact(H8 j v hj).2.2
def pL{c:Cx}{w':World}{g n m sz cap:Nat}{T:TypeId}{all olds news:List Value}{rows:List Rw}(hw:w'.heap[g]?=some (.cells all.toArray T (0,0)))(IN:∀(j:Nat) v,(olds++news)[j]?=some v->all[j]?=some v)(hp:some g∉c.Ce)(hb:∀i,¬c.bad g i)
   (hol:olds.length=n*sz) (hnl:news.length=m*sz) (hrow:∀(r:Nat) n' cap' OI,rows[r]?=some (.Sk g n' cap' OI)->n'=n+m/\cap'=cap/\OI=sz) {j:Nat}{v:Value} (hj:(olds++news)[j]?=some v):MD { c with rows:=rows } w' g j v:=by
 have hjl:=(aBC.1 hj).1;rw[aWQ] at hjl;refine⟨(aPB.1 hw).1,λhs=>?_,cell_of_heap hw (IN j v hj)⟩;rcases hs with hs | ⟨r,n',cap',OI,hr,h1,h2⟩ | hs
 exact hp hs;obtain⟨rfl,rfl,rfl⟩:=hrow r n' cap' OI hr;rw[blG] at h1;omega;exact hb j hs
def abP{P:Program}{G:AN}{c:Cx}{w:World}{s s':AS}{t tx ty:TypeId}{a b r:AV}{va vb:Value}(hs:St G c w s)(h:MG P s t tx a b=some (r,s'))(ha:Rp c w a va)(hb:Rp c w b vb) :
   ∃u w' c',(bkX #[t,tx] ty #[va,vb]).run P w=.ok u w'/\Ext c w c' w'/\St G c' w' s'/\Rp c' w' r u:=by
 unfold MG at h;split at h
 ·rename_i e ht
  split at h
  ·rename_i i hi
   split at h
   ·rename_i z hz
    split at h
    ·rename_i hzs
     split at h
     ·rename_i own n cs m ns aOV
      split at h
      ·rename_i hc
       obtain⟨news,hnr,hnl,hsi⟩:=qH hs aOV hb;split at h;rename_i hm;cases h;subst hm;have rM:news=[]:=biJ (by simpa using hnl)
       subst rM;obtain⟨base,cap,olds,rfl,wU,_,_,_⟩:=Z3 (P:=P) (size:=i.size) ha hc.1;refine⟨.slice base n cap,w,c,?_,Ext.refl c w,hs,ha⟩;exact TM ht hi hsi (by omega) (λa _=>by simp[storeCells]) (λ_=>rfl)
       ·rename_i hm
        split at h
        ·rename_i RI
         cases h;obtain⟨base,cap,olds,rfl,wU,hor,hol,hfc⟩:=Z3 (P:=P) (size:=i.size) ha hc.1;by_cases X5:n+m<=cap
         ·cases ha with
          |sl0 h0=>
           exfalso;cases own with|full=>have:cap=0:=h0;omega|row r z=>have:cap=0:=h0.1;omega|lost=>simp[Qd] at RI|nil=>simp[Qd] at RI|nn=>simp[Qd] at RI
          |@Lt _ _ _ g o _ hn UU ho=>
           cases own with
           |full=>exfalso;have:cap=n:=ho;omega
           |lost=>simp[Qd] at RI
           |nil=>simp[Qd] at RI
           |nn=>simp[Qd] at RI
           |row r0 sz=>
            simp only[Qd,bhB,beq_iff_eq] at RI;obtain⟨rfl,hF⟩:=RI
            have hF:DV r0 s.F=some n:=by split at hF;rename_i k hk;rw[hk,beq_iff_eq.1 hF];cases hF
            obtain⟨rfl,hlen,bhO,rN,aXL⟩:=ho;rcases hs.IZ r0 n hF with ⟨h1,_⟩ | ⟨g',cap',OI,hrow⟩
            exact absurd h1 rN;obtain⟨rfl,rfl,rfl⟩:=(aXL _ _ _ _ hrow).2 rfl;obtain⟨hgb,hbg,hgp,hlh,cur,T,aBE,bcP⟩:=hs.row r0 g' _ _ _ hrow;have alG:n*i.size+news.length<=cur.size:=by rw[hnl,bcP,<- blG];exact bkQ _ X5
            have Dc:=run_storeCells_at P g' (n*i.size) T news 0 cur w aBE (by simpa using alG) (dK hnr hc.2.1)
            simp only[bjU] at Dc;have Np:=setRow_heap w g' cur (cur.toList.take (n*i.size)++news++cur.toList.drop (n*i.size+news.length)).toArray T (0,0) aBE
            have bcN:cur.toList.take (n*i.size)=olds:=by
             obtain⟨vs,hr,H8⟩:=UU.vals;have h1:=hfc w rfl;have h2:=run_firstCells_some (P:=P) w i.size n ⟨g',0,none⟩ n cap' vs (by rw[hr.len];exact hc.1) (λj v hj=>by rw[add_lit];exact(H8 j v hj).2.2);rw[h1] at h2;injection h2 with h2 _
             have h3:olds=vs:=by simpa using congrArg Array.toList h2
             subst h3;apply blO;intro j;rw[bkY];by_cases hj:j < n*i.size;rw[if_pos hj];have hj2:j < olds.length:=by omega
             have:=(H8 j _ (aBD hj2)).2.2;rw[bhC] at this;simp only[bjZ,aBE] at this;rw[aBD hj2,biO];simpa using this
             rw[if_neg hj,bjE (by omega)]
            obtain⟨x,st⟩:=hs.uA hF (g:=g') (n:=n+m) (cap:=cap') (sz:=i.size) (T:=T) (IM w g' (cur.toList.take (n*i.size)++news++cur.toList.drop (n*i.size+news.length)).toArray) hbg hgp (by omega) X5 Np (by simp only[bjY,aWQ,biM,bhI,biR];omega)
              (.inr ⟨hrow,λj v hj hv=>by
               rw[bkS,bjX,bhD (by rw[biM,biR];omega),bkY,if_pos hj];simpa[bjZ,aBE] using hv⟩)
            refine⟨_,_,_,TM ht hi hsi X5 (λa ha=>by cases ha;rw[add_lit,bhC];exact Dc) (λh=>by cases h),x,st,?_⟩;have xA:=hs.tZ hF;refine .Lt X5 (A0.Tm ((hor.append hnr).mono x) (λj v hj=>?_)) ⟨rfl,by rw[aWQ,hc.1,<- hnr.len,hnl,blG],by simpa using xA,λh2=>?_,λg2 n2 c2 s2 h2=>?_⟩
            rw[bhC];refine pL (olds:=olds) (news:=news) (cap:=cap') Np (λj v hj=>?_) hgp hgb hol hnl (λr n' bgS bhZ hr=>?_) hj;rw[<- bcN] at hj;have hjl:=(aBC.1 hj).1;rw[bhD hjl];exact hj;rcases M9 hr with ⟨rfl,h1,_⟩ | ⟨hne,h1⟩
            injection h1 with _ e2 e3 e4
            exact⟨e2,e3,e4⟩;exact absurd (hs.Ie r r0 g' _ _ _ _ _ _ h1 hrow) hne;simp only at h2;rw[biW xA] at h2;cases h2;simp only at h2;rw[biW xA] at h2;injection h2 with h2
            injection h2 with e1 e2 e3 e4
            subst e1 e2 e3 e4;exact⟨aWP _,λ_=>⟨rfl,rfl,rfl⟩⟩
         ·obtain⟨cap',gV,Ud⟩:=TL (ty:=ty) ht hi hz hsi (hfc { w with drawn:=w.drawn+1 } rfl) (by omega) hc.2.2.2 hc.2.2.1
          have hzc:(biY z.cells (cap' - (n+m))).size=(cap' - (n+m))*i.size:=by rw[size_zeroCells,hzs.1]
          have hk:Ut w { w with drawn:=w.drawn+1,heap:=w.heap.push (.cells ((olds++news).toArray++biY z.cells (cap' - (n+m))) e) } (λx=>x=w.heap.size) :=
           ⟨rfl,rfl,rfl,by simp,λk hk _=>by simp[boL];intro h;omega⟩
          have Np:({ w with drawn:=w.drawn+1,heap:=w.heap.push (.cells ((olds++news).toArray++biY z.cells (cap' - (n+m))) e) }:World).heap[w.heap.size]?=some (.cells ((olds++news).toArray++biY z.cells (cap' - (n+m))) e (0,0)):=by simp
          have aXF:({ w with drawn:=w.drawn+1,heap:=w.heap.push (.cells ((olds++news).toArray++biY z.cells (cap' - (n+m))) e) }:World).heap[w.heap.size]?=some (.cells ((olds++news)++(biY z.cells (cap' - (n+m))).toList).toArray e (0,0)):=by rw[Np];congr 2;apply bjG;simp
          have hpn:some w.heap.size∉c.Ce:=λhm=>by have:=hs.OY hm;omega
          have hbn:∀i,¬c.bad w.heap.size i:=λi hb=>by have:=hs.Ng _ i hb;omega
          have hsz:((olds++news).toArray++biY z.cells (cap' - (n+m))).size=cap'*i.size:=by simp only[Array.size_append,bjY,aWQ,hol,hnl,hzc,<- blG];congr 1;omega
          have aXK:∀(r:Nat) n' c' s',c.rows[r]?≠some (.Sk w.heap.size n' c' s'):=λr n' c' s' hr=>by have:=hs.NE hr;omega
          have fin:∀(rows:List Rw)(r:Nat),rows[r]?=some (.Sk w.heap.size (n+m) cap' i.size)->(∀(r':Nat) n' c' s',rows[r']?=some (.Sk w.heap.size n' c' s')->n'=n+m/\c'=cap'/\s'=i.size)->Ext c w { c with rows:=rows } { w with drawn:=w.drawn+1,heap:=w.heap.push (.cells ((olds++news).toArray++biY z.cells (cap' - (n+m))) e) } ->
           Rp { c with rows:=rows } { w with drawn:=w.drawn+1,heap:=w.heap.push (.cells ((olds++news).toArray++biY z.cells (cap' - (n+m))) e) } (.sl (.row r i.size) (n+m) (cs++ns)) (.slice (some ⟨w.heap.size,0,none⟩) (n+m) cap'):=by
           intro rows r hr IN x;refine .Lt gV (A0.Tm ((hor.append hnr).mono x) (λj v hj=>?_)) ⟨rfl,by rw[aWQ,hc.1,<- hnr.len,hnl,blG],(aBC.1 hr).1,λh2=>?_,λg2 n2 c2 s2 h2=>?_⟩;rw[bhC];refine pL (olds:=olds) (news:=news) (cap:=cap') aXF (λj v hj=>?_) hpn hbn hol hnl IN hj;rw[bhD (aBC.1 hj).1];exact hj;simp only at h2;rw[hr] at h2;cases h2;simp only at h2;rw[hr] at h2;injection h2 with h2
           injection h2 with e1 e2 e3 e4
           subst e1 e2 e3 e4;exact⟨aWP _,λ_=>⟨rfl,rfl,rfl⟩⟩
          have aDX:∀r sz,Qd i.size s.F n (.row r sz)=true->∃u w' c',(bkX #[t,tx] ty #[.slice base n cap,vb]).run P w=.ok u w'/\Ext c w c' w'/\St G c' w' (s.grow r (n+m))/\Rp c' w' (.sl (.row r i.size) (n+m) (cs++ns)) u:=by
           intro r sz RI;simp only[Qd,bhB,beq_iff_eq] at RI
           have hF:DV r s.F=some n:=by have hF:=RI.2;split at hF;rename_i k hk;rw[hk,beq_iff_eq.1 hF];cases hF
           have xA:=hs.tZ hF;obtain⟨x,st⟩:=hs.uA hF (g:=w.heap.size) (n:=n+m) (cap:=cap') (sz:=i.size) (T:=e) hk hs.Sa hpn (by omega) gV Np hsz (.inl rfl);refine⟨_,_,_,Ud,x,st,fin _ r (biW xA) (λr' n' c' s' hr=>?_) x⟩;rcases M9 hr with ⟨rfl,h1,_⟩ | ⟨hne,h1⟩
           injection h1 with _ e2 e3 e4
           exact⟨e2,e3,e4⟩;exact absurd h1 (aXK _ _ _ _)
          cases own with
          |lost=>simp[Qd] at RI
          |nil=>simp[Qd] at RI
          |nn=>simp[Qd] at RI
          |row r sz=>exact aDX r sz RI
          |full=>
           obtain⟨x,st⟩:=hs.aDW (n:=n+m) (cap:=cap') (sz:=i.size) (T:=e) hk (by omega) gV Np hsz;refine⟨_,_,_,Ud,x,st,fin _ s.nr (by rw[hs.Ia];exact bjT) (λr' n' c' s' hr=>?_) x⟩;by_cases hr2:r' < c.rows.length;rw[bhD hr2] at hr;exact absurd hr (aXK _ _ _ _);have hl:=(aBC.1 hr).1;simp at hl;have:r'=c.rows.length:=by omega
           subst this;rw[bjT] at hr;injection hr with hr
           injection hr with _ e2 e3 e4
           exact⟨e2.symm,e3.symm,e4.symm⟩
        cases h
      cases h
     cases h
    cases h
   cases h
  cases h
 cases h
end AI
namespace AI
open Go Go.RowKit
def plainKey:TypeDesc->Bool
 |.int _ | .string | .bool=>true
 |_=>false
def oS:TypeDesc->Value->Value->Option Bool
 |.int _,.int k a,.int k' b=>if k=k' then some (a == b) else none
 |.string,.string a,.string b=>some (a.data.toList == b.data.toList)
 |.bool,.bool a,.bool b=>some (a == b)
 |_,_,_=>none
def aoP(a b:ByteArray):(a == b)=(a.data.toList == b.data.toList):=by obtain⟨⟨a⟩⟩:=a;obtain⟨⟨b⟩⟩:=b;show((⟨a⟩:Array UInt8) == ⟨b⟩)=(a == b);simp
def jU(d:TypeDesc)(a b:Value):bsZ d a b=oS d a b:=by unfold oS;split<;>simp_all [bsZ,aoP]
def jT{d:TypeDesc}{a b:Value}(h:oS d a b=some true):boX 10000 b a=true:=by unfold oS at h;split at h;split at h;rename_i e;subst e;simp at h;subst h;simp[boX];cases h;rename_i x y;simp only[atS,beq_iff_eq] at h;simp[boX,aoP,h];simp at h;subst h;simp[boX];cases h
def fH(d:TypeDesc)(k:Value):List (Value×AV×Nat)->Nat->Option (Option (Nat×AV))
 |[],_=>some none
 |e::es,i=>match oS d k e.1 with|some true=>some (some (i,e.2.1))|some false=>fH d k es (i+1)|none=>none
def Sh{c:Cx}{w:World}{d:TypeDesc}{k:Value}{es:List (Value×AV×Nat)}{fs:List MapEntry}(h:Nc c w es fs){i:Nat}{r:Option (Nat×AV)}(hf:fH d k es i=some r) :
   (r=none/\blU d k fs i=some none)\/∃j a v e f,r=some (i+j,a)/\blU d k fs i=some (some (i+j,v))/\Rp c w a v/\es[j]?=some e/\fs[j]?=some f/\e.2.1=a/\f.val=v/\f.key=e.1/\f.born=e.2.2/\oS d k e.1=some true:=by
 induction h generalizing i r with
 |nil=>simp[fH] at hf;subst hf;exact .inl ⟨rfl,rfl⟩
 |@cons k' a v b es fs h1 _ ih=>
  simp only[fH] at hf;split at hf;rename_i hs;cases hf;refine .inr ⟨0,a,v,(k',a,b),⟨k',v,b⟩,rfl,?_,h1,rfl,rfl,rfl,rfl,rfl,rfl,hs⟩;simp only[blU,jU,hs,bjU];rename_i hs;rcases ih hf with ⟨h2,h3⟩ | ⟨j,a',v',e,f,h2,h3,h4,h5,h6,h7⟩
  refine .inl ⟨h2,?_⟩;simp only[blU,jU,hs];exact h3;refine .inr ⟨j+1,a',v',e,f,by rw[h2];congr 2;omega,?_,h4,by simpa using h5,by simpa using h6,h7⟩
  simp only[blU,jU,hs];rw[h3];congr 3;omega;cases hf
def Nc.set{c:Cx}{w:World}{es:List (Value×AV×Nat)}{fs:List MapEntry}(h:Nc c w es fs){k:Value}{a:AV}{v:Value}{b:Nat}(hr:Rp c w a v)(i:Nat):Nc c w (es.set i (k,a,b)) (fs.set i ⟨k,v,b⟩):=by
 induction h generalizing i with
 |nil=>exact .nil
 |cons h1 t ih=>
  cases i with|zero=>exact .cons hr t|succ i=>exact .cons h1 (ih i)
def Nc.snoc{c:Cx}{w:World}{es:List (Value×AV×Nat)}{fs:List MapEntry}(h:Nc c w es fs){k:Value}{a:AV}{v:Value}{b:Nat}(hr:Rp c w a v):Nc c w (es++[(k,a,b)]) (fs++[⟨k,v,b⟩]):=by induction h with|nil=>exact .cons hr .nil|cons h1 _ ih=>exact .cons h1 ih
def Nc.len{c:Cx}{w:World}{es:List (Value×AV×Nat)}{fs:List MapEntry}(h:Nc c w es fs):fs.length=es.length:=by induction h with|nil=>rfl|cons _ _ ih=>simp[ih]
def XV{G:AN}{c:Cx}{w:World}{s:AS}(hs:St G c w s){id g:Nat}{es:List (Value×AV×Nat)}{clock:Nat}(hid:c.Ce[id]?=some (some g))(hb:s.get id=some (.map es clock)):∃fs,w.heap[g]?=some (.map fs.toArray clock)/\Nc c w es fs:=by obtain⟨o,ho,rJ⟩:=hs.box id g _ hid hb;cases rJ with|map h1=>exact⟨_,ho,h1⟩
def KN{P:Program}{w:World}{g:Nat}{es:Array MapEntry}{cl:Nat}(h:w.heap[g]?=some (.map es cl)):(getObj g).run P w=.ok (.map es cl) w:=by simp[getObj,Sem.run,h]
def QB{P:Program}{w:World}{g:Nat}{es:Array MapEntry}{cl:Nat}(o:Obj)(h:w.heap[g]?=some (.map es cl)):(setObj g o).run P w=.ok () { w with heap:=w.heap.setIfInBounds g o }:=by simp[setObj,Sem.run,h]
def XX(w:World)(g:Nat)(o:Obj):Ut w { w with heap:=w.heap.setIfInBounds g o } (λx=>x=g) :=
 ⟨rfl,rfl,rfl,by simp,λk _ hne=>by simp only;rw[bmE (λe=>hne e.symm)]⟩
def Yz(w:World){g:Nat}{o o':Obj}(h:w.heap[g]?=some o'):({ w with heap:=w.heap.setIfInBounds g o }:World).heap[g]?=some o:=by have:=(aPB.1 h).1;simp[this]
def run_checkKey{P:Program}{kt:TypeId}{kd:TypeDesc}{v:Value}(b:Bool)(h:P.underlying kt=some kd)(hp:plainKey kd=true)(w:World):(bsN b 10000 kt v).run P w=.ok () w:=by unfold bsN;rw[biG,run_underlying h];cases kd<;>first | (simp[plainKey] at hp;done) | rfl
def run_findKey{P:Program}{kt:TypeId}{kd:TypeDesc}{v:Value}{es:List MapEntry}{r:Option (Nat×Value)}(h:P.underlying kt=some kd)(hf:blU kd v es 0=some r)(w:World):(btA kt v es).run P w=.ok r w:=by unfold btA;rw[biG,run_underlying h];simp[hf]
def N6(P:Program)(t:TypeId):Option AV :=
 match P.info? t with
 |some i=>match i.zero with|some z=>aG z|none=>none
 |none=>none
def mW{P:Program}{t:TypeId}{a:AV}(h:N6 P t=some a):UZ a=false:=by unfold N6 at h;split at h;split at h;exact adN h;cases h;cases h
def XU{P:Program}{t:TypeId}{a:AV}(h:N6 P t=some a)(c:Cx)(w w0:World):∃z,(zeroValue t).run P w0=.ok z w0/\Rp c w a z:=by unfold N6 at h;split at h;rename_i i hi;split at h;rename_i z hz;exact⟨z,by simp[zeroValue,typeInfo,hi,hz],yD h c w⟩;cases h;cases h
def Ka(P:Program)(s:AS)(t:TypeId)(x k:AV)(ok:Bool):Option AV :=
 match P.underlying t with
 |some (.map kt et)=>match P.underlying kt,kF k with
  |some kd,some key=>if plainKey kd=true then
   (match (match x with
    |.sc (.map none)=>some []
    |.mp id=>match s.get id with|some (.map es _)=>some es|_=>none
    |_=>none) with
   |some es=>match fH kd key es 0 with|some (some (_,v))=>some (if ok then .Gx [v,.sc (.bool true)] else v)|some none=>(N6 P et).map λz=>if ok then .Gx [z,.sc (.bool false)] else z|none=>none
   |none=>none) else none
  |_,_=>none
 |_=>none
def aoB(w:World)(vx:Value)(fs:List MapEntry):Prop:=(vx=.map none/\fs=[])\/∃g cl,vx=.map (some g)/\w.heap[g]?=some (.map fs.toArray cl)
def cD{P:Program}{w:World}{t kt et:TypeId}{kd:TypeDesc}{vx vk v:Value}{fs:List MapEntry}{j:Nat}(ok:Bool)(hu:P.underlying t=some (.map kt et))(hkd:P.underlying kt=some kd)(hp:plainKey kd=true)(hm:aoB w vx fs)(hf:blU kd vk fs 0=some (some (j,v))) :
   (bnP t vx vk ok).run P w=.ok (if ok then .tuple #[v,.bool true] else v) w:=by
 rcases hm with ⟨rfl,rfl⟩ | ⟨g,cl,rfl,hg⟩
 simp[blU] at hf;simp only[bnP,biG,run_underlying hu,biD,KN hg,bjJ,run_checkKey _ hkd hp,run_findKey hkd hf]
def cC{P:Program}{w:World}{t kt et:TypeId}{kd:TypeDesc}{vx vk z:Value}{fs:List MapEntry}(ok:Bool)(hu:P.underlying t=some (.map kt et))(hkd:P.underlying kt=some kd)(hp:plainKey kd=true)(hm:aoB w vx fs)(hf:blU kd vk fs 0=some none)(hz:(zeroValue et).run P w=.ok z w) :
   (bnP t vx vk ok).run P w=.ok (if ok then .tuple #[z,.bool false] else z) w:=by
 rcases hm with ⟨rfl,rfl⟩ | ⟨g,cl,rfl,hg⟩
 simp only[bnP,biG,run_underlying hu,biD,bjJ,run_checkKey _ hkd hp];rw[run_findKey hkd hf];simp only[biG,hz,biD,bjJ];simp only[bnP,biG,run_underlying hu,biD,KN hg,bjJ,run_checkKey _ hkd hp,run_findKey hkd hf,hz]
def abT{P:Program}{G:AN}{c:Cx}{w:World}{s:AS}{t:TypeId}{x k r:AV}{ok:Bool}{vx vk:Value}(hs:St G c w s)(h:Ka P s t x k ok=some r)(hx:Rp c w x vx)(hk:Rp c w k vk) :
   ∃u,(bnP t vx vk ok).run P w=.ok u w/\Rp c w r u:=by
 unfold Ka at h;split at h
 ·rename_i kt et hu
  split at h
  ·rename_i kd key hkd arS
   have:=YH arS hk;subst this;split at h
   ·rename_i hp
    split at h
    ·rename_i es hes
     obtain⟨fs,hfs,hm⟩:∃fs,Nc c w es fs/\aoB w vx fs:=by
      split at hes;cases hes;cases hx;exact⟨[],.nil,.inl ⟨rfl,rfl⟩⟩
      ·split at hes
       ·rename_i es' cl hb
        cases hes;cases hx with
        |mp hid=>
         obtain⟨fs,hw,he⟩:=XV hs hid hb;exact⟨fs,he,.inr ⟨_,_,rfl,hw⟩⟩
       cases hes
      cases hes
     split at h;rename_i j v hf;cases h;rcases Sh hfs hf with ⟨h1,_⟩ | ⟨j',a,v',e,f,h1,h2,h3,_⟩
     cases h1;injection h1 with h1
     injection h1 with _ h1
     subst h1;refine⟨_,cD ok hu hkd hp hm h2,?_⟩;cases ok;exact h3;exact .Gx (vs:=[v',.bool true]) (.cons h3 (.cons (.sc rfl) .nil))
     ·rename_i hf
      cases hz:N6 P et with
      |none=>rw[hz] at h;cases h
      |some z=>
       rw[hz] at h;cases h;rcases Sh hfs hf with ⟨_,h2⟩ | ⟨j',a,v',e,f,h1,_⟩
       obtain⟨zv,hzr,hzp⟩:=XU hz c w w;refine⟨_,cC ok hu hkd hp hm h2 hzr,?_⟩;cases ok;exact hzp;exact .Gx (vs:=[zv,.bool false]) (.cons hzp (.cons (.sc rfl) .nil));cases h1
     cases h
    cases h
   cases h
  cases h
 cases h
def LW(P:Program)(s:AS)(t:TypeId)(x k v:AV):Option AS :=
 match P.underlying t with
 |some (.map kt _)=>match P.underlying kt,kF k,x with
  |some kd,some key,.mp id=>if plainKey kd=true then
   (match s.get id with
   |some (.map es cl)=>match fH kd key es 0 with
    |some (some (j,_))=>match es[j]? with|some e=>some (s.put id (.map (es.set j (key,v,e.2.2)) cl))|none=>none
    |some none=>some (s.put id (.map (es++[(key,v,cl)]) (cl+1)))
    |none=>none
   |_=>none) else none
  |_,_,_=>none
 |_=>none
def WV{fs:List MapEntry}{j:Nat}{f g:MapEntry}{F:MapEntry->MapEntry}(h:fs[j]?=some f)(hF:F f=g):fs.toArray.modify j F=(fs.set j g).toArray:=by apply bjG;rw[List.modify_toArray];apply blO;intro i;rw[List.getElem?_modify,bpH];by_cases e:j=i;subst e;obtain⟨hl,he⟩:=aBC.1 h;simp[hl,he,hF];simp[e]
def fI{P:Program}{G:AN}{c:Cx}{w:World}{s s':AS}{t:TypeId}{x k v:AV}{vx vk vv:Value}(hs:St G c w s)(h:LW P s t x k v=some s')(hx:Rp c w x vx)(hk:Rp c w k vk)(hv:Rp c w v vv) :
   ∃w',(bqI t vx vk vv).run P w=.ok () w'/\Ext c w c w'/\St G c w' s':=by
 unfold LW at h;split at h
 ·rename_i kt et hu
  split at h
  ·rename_i kd key id hkd arS
   have:=YH arS hk;subst this;split at h
   ·rename_i hp
    split at h
    ·rename_i es cl hb
     cases hx with
     |@mp _ g hid=>
      obtain⟨fs,hw,he⟩:=XV hs hid hb;split at h;rename_i j a hf;split at h;rename_i e hej;cases h;rcases Sh he hf with ⟨h1,_⟩ | ⟨j',a',v',e',f,h1,h2,h3,h4,h5,h6,h7,h8,h9,h10⟩
      cases h1;injection h1 with h1
      injection h1 with h1 _
      rw[bhC] at h1;subst h1;rw[hej] at h4;cases h4;rw[bhC] at h2;have arU:fs.toArray.modify j (λe=>{ e with key:=vk,val:=vv })=(fs.set j ⟨vk,vv,e.2.2⟩).toArray:=WV h5 (by rw[<- h9])
      obtain⟨x1,st⟩:=hs.put (b:=.map (es.set j (vk,v,e.2.2)) cl) (o:=.map (fs.set j ⟨vk,vv,e.2.2⟩).toArray cl) hid (XX w g _) (Yz w hw) (.map (he.set hv j));refine⟨_,?_,x1,st⟩;have arM:=jT h10;have hfk:=run_findKey (P:=P) hkd h2 w;simp only[bqI,biG,run_underlying hu,biD,KN hw,run_checkKey _ hkd hp,hfk,bkS,h5,bhK,bmH,h8,brD,arM,if_true,bjJ,arU];exact QB _ hw;cases h;rename_i hf;cases h;rcases Sh he hf with ⟨_,h2⟩ | ⟨j',a',v',e',f,h1,_⟩
      obtain⟨x1,st⟩:=hs.put (b:=.map (es++[(vk,v,cl)]) (cl+1)) (o:=.map (fs++[(⟨vk,vv,cl⟩:MapEntry)]).toArray (cl+1)) hid (XX w g _) (Yz w hw) (.map (he.snoc hv));refine⟨_,?_,x1,st⟩;have hfk:=run_findKey (P:=P) hkd h2 w;have arW:fs.toArray.push (⟨vk,vv,cl⟩:MapEntry)=(fs++[(⟨vk,vv,cl⟩:MapEntry)]).toArray:=by simp
      simp only[bqI,biG,run_underlying hu,biD,KN hw,run_checkKey _ hkd hp,hfk,arW];exact QB _ hw;cases h1;cases h
    cases h
   cases h
  cases h
 cases h
def vJ{P:Program}{G:AN}{c:Cx}{w:World}{s:AS}{t:TypeId}(hs:St G c w s) :
   ∃v' w' c',(btB t none).run P w=.ok v' w'/\Ext c w c' w'/\St G c' w' (s.new (.map [] 0))/\Rp c' w' (.mp s.nx) v':=by
 obtain⟨e,st⟩:=hs.new (b:=.map [] 0) (o:=.map #[] 0) (.map (fs:=[]) .nil);refine⟨.map (some w.heap.size),_,_,?_,e,st,.mp ?_⟩;simp[btB];simp[hs.len]
def aZ(P:Program)(s:AS)(t:TypeId)(a:AV):Option AV :=
 match P.underlying t,a with
 |some .string,.sc (.string x)=>some (.sc (.int .i64 x.data.toList.length))
 |some (.slice _),.sl _ n _=>some (.sc (.int .i64 n))
 |some (.slice _),.Im _ _ n=>some (.sc (.int .i64 n))
 |some (.map _ _),.sc (.map none)=>some (.sc (.int .i64 0))
 |some (.map _ _),.mp id=>match s.get id with|some (.map es _)=>some (.sc (.int .i64 es.length))|_=>none
 |_,_=>none
def azJ{P:Program}{G:AN}{c:Cx}{w:World}{s:AS}{t ty:TypeId}{a r:AV}{v:Value}(hs:St G c w s)(h:aZ P s t a=some r)(ha:Rp c w a v):∃u,(bmZ #[t] ty #[v]).run P w=.ok u w/\Rp c w r u:=by
 unfold aZ at h;split at h;rename_i x hu;cases h;cases ha;exact⟨_,by simp[bmZ,run_underlying hu,goInt],.sc rfl⟩;rename_i hu;cases h;cases ha<;>exact⟨_,by simp[bmZ,run_underlying hu,goInt],.sc rfl⟩
 rename_i hu;cases h;cases ha;exact⟨_,by simp[bmZ,run_underlying hu,goInt],.sc rfl⟩;rename_i hu;cases h;cases ha;exact⟨_,by simp[bmZ,run_underlying hu,goInt],.sc rfl⟩
 ·rename_i hu
  split at h
  ·rename_i es cl hb
   cases h;cases ha with
   |mp hid=>
    obtain⟨fs,hw,he⟩:=XV hs hid hb;exact⟨_,by simp[bmZ,run_underlying hu,KN hw,he.len,goInt],.sc rfl⟩
  cases h
 cases h
def Km(P:Program)(s:AS)(t:TypeId)(l c:AV):Option (AV×AS) :=
 match P.underlying t with
 |some (.slice elem)=>match P.info? elem,Uc l,Uc c with
  |some e,some n,some m=>match e.zero with
   |some z=>match NM z.cells.toList with|some zs=>if n=m/\n<=16777216/\n*e.bytes<=281474976710656/\zs.isEmpty=false then some (.Im s.nx 0 n,s.new (.cells ((bjD (n*e.size)).map λi=>zs.getD (i % zs.length) (.sc undef)))) else none|none=>none
   |none=>none
  |_,_,_=>none
 |_=>none
end AI
namespace AI
open Go Go.RowKit
def lR{P:Program}{G:AN}{c:Cx}{w:World}{s s':AS}{t:TypeId}{l k r:AV}{vl vk:Value}(hs:St G c w s)(h:Km P s t l k=some (r,s'))(hl:Rp c w l vl)(hk:Rp c w k vk) :
   ∃u w' c',(bsE t vl vk).run P w=.ok u w'/\Ext c w c' w'/\St G c' w' s'/\Rp c' w' r u:=by
 unfold Km at h;split at h;rename_i elem hu;split at h;rename_i e n m he hn hm;split at h;rename_i z hz;split at h;rename_i zs hzs;split at h;rename_i hc;cases h;obtain⟨rfl,h24,h48,hne⟩:=hc;obtain⟨k1,i1,rfl,h1,e1⟩:=Pj hn hl;obtain⟨k2,i2,rfl,h2,e2⟩:=Pj hm hk;have w1:bmL.wrap i1=i1:=bmW _ (by omega);have w2:bmL.wrap i2=i2:=bmW _ (by omega);have hzr:Cw c w zs z.cells.toList:=Tl hzs c w;have hin:=abL hzr (n*e.size) (λ_ hn=>by rw[hn] at hne;cases hne);simp only[bkP] at hin
 have arL:(bpG (n*e.size)).map (λi=>z.cells[i % z.cells.size]!)=((bjD (n*e.size)).map λi=>z.cells[i % z.cells.size]!).toArray:=by apply bjG;simp
 obtain⟨x,st⟩:=hs.new (b:=.cells ((bjD (n*e.size)).map λi=>zs.getD (i % zs.length) (.sc undef))) (o:=.cells ((bjD (n*e.size)).map λi=>z.cells[i % z.cells.size]!).toArray elem (0,0)) (.cells hin);refine⟨.slice (some ⟨w.heap.size,0,none⟩) n n,_,_,?_,x,st,.Im (aWP _) (by simp[hs.len])⟩
 have hb:¬281474976710656 < (e.bytes:Int)*i2:=by
  have e3:(e.bytes:Int)*i2=((n*e.bytes:Nat):Int):=by rw[show i2=(n:Int) from by omega,Int.natCast_mul,Int.mul_comm]
  rw[e3];generalize n*e.bytes=q at h48;omega
 have hn2:¬i2 < 0:=by omega
 have hn1:¬i1 < 0:=by omega
 have hle:¬i2 < i1:=by omega
 simp only[bsE,biG,run_underlying hu,biD,asInt,asIntOf,bjJ,typeInfo,run_program,he,w1,w2,hn1,hn2,gt_iff_lt,show(2:Int) ^ 48=281474976710656 from rfl,hb,decide_false,Bool.or_false,hle,biF,if_false,run_askRoom,e2,CN he,newRow,e1];split;rename_i h0;have hz0:bpG 0=#[]:=rfl;simp[h0,hz0];simp only[biG,zeroValue,typeInfo,run_program,biD,he,hz,bjJ,run_newObj,arL];cases h;cases h;cases h;cases h;cases h
def Si(P:Program)(s:AS)(t:TypeId)(x k:AV):Option (AV×AS) :=
 match P.underlying t with
 |some (.map kt et)=>match P.underlying kt,kF k,x with
  |some kd,some key,.mp id=>if plainKey kd=true then
   (match s.get id with
   |some (.map es cl)=>match fH kd key es 0 with
    |some (some (j,v))=>match es[j]? with|some e=>some (.Gx [v,.sc (.int .i64 e.2.2)],(s.put id (.map (es.set j (key,v,e.2.2)) cl)))|none=>none
    |some none=>match N6 P et with|some z=>some (.Gx [z,.sc (.int .i64 cl)],(s.put id (.map (es++[(key,z,cl)]) (cl+1))))|none=>none
    |none=>none
   |_=>none) else none
  |_,_,_=>none
 |_=>none
def qB{P:Program}{G:AN}{c:Cx}{w:World}{s s':AS}{t:TypeId}{x k r:AV}{vx vk:Value}(hs:St G c w s)(h:Si P s t x k=some (r,s'))(hx:Rp c w x vx)(hk:Rp c w k vk) :
   ∃u w',(bqO t vx vk).run P w=.ok u w'/\Ext c w c w'/\St G c w' s'/\Rp c w' r u:=by
 unfold Si at h;split at h
 ·rename_i kt et hu
  split at h
  ·rename_i kd key id hkd arS
   have:=YH arS hk;subst this;split at h
   ·rename_i hp
    split at h
    ·rename_i es cl hb
     cases hx with
     |@mp _ g hid=>
      obtain⟨fs,hw,he⟩:=XV hs hid hb;split at h;rename_i j v hf;split at h;rename_i e hej;cases h;rcases Sh he hf with ⟨h1,_⟩ | ⟨j',a',v',e',f,h1,h2,h3,h4,h5,h6,h7,h8,h9,h10⟩
      cases h1;injection h1 with h1
      injection h1 with h1 h1'
      rw[bhC] at h1;subst h1 h1';rw[hej] at h4;cases h4;rw[bhC] at h2;have arU:fs.toArray.modify j (λe=>{ e with key:=vk })=(fs.set j ⟨vk,v',e.2.2⟩).toArray:=WV h5 (by rw[<- h9,<- h7])
      obtain⟨x1,st⟩:=hs.put (b:=.map (es.set j (vk,v,e.2.2)) cl) (o:=.map (fs.set j ⟨vk,v',e.2.2⟩).toArray cl) hid (XX w g _) (Yz w hw) (.map (he.set h3 j));refine⟨.tuple #[v',.int .i64 e.2.2],_,?_,x1,st,.Gx (vs:=[v',.int .i64 e.2.2]) (.cons (h3.mono x1) (.cons (.sc rfl) .nil))⟩;have arM:=jT h10;have hfk:=run_findKey (P:=P) hkd h2 w;simp only[bqO,biG,run_underlying hu,biD,KN hw,run_checkKey _ hkd hp,hfk,bkS,h5,bhK,bmH,h8,h9,brD,arM,if_true,bjJ,arU,QB _ hw,goInt];cases h;rename_i hf;split at h;rename_i z hz;cases h;rcases Sh he hf with ⟨_,h2⟩ | ⟨j',a',v',e',f,h1,_⟩
      obtain⟨zv,hzr,hzp⟩:=XU hz c w w;obtain⟨x1,st⟩:=hs.put (b:=.map (es++[(vk,z,cl)]) (cl+1)) (o:=.map (fs++[(⟨vk,zv,cl⟩:MapEntry)]).toArray (cl+1)) hid (XX w g _) (Yz w hw) (.map (he.snoc hzp));refine⟨.tuple #[zv,.int .i64 cl],_,?_,x1,st,.Gx (vs:=[zv,.int .i64 cl]) (.cons (hzp.mono x1) (.cons (.sc rfl) .nil))⟩;have hfk:=run_findKey (P:=P) hkd h2 w;have arW:fs.toArray.push (⟨vk,zv,cl⟩:MapEntry)=(fs++[(⟨vk,zv,cl⟩:MapEntry)]).toArray:=by simp
      simp only[bqO,biG,run_underlying hu,biD,KN hw,run_checkKey _ hkd hp,hfk,hzr,arW,QB _ hw,bjJ,goInt];cases h1;cases h;cases h
    cases h
   cases h
  cases h
 cases h
def vD(b:Int):List (Value×AV×Nat)->Nat->Option Nat
 |[],_=>none
 |e::es,i=>if (e.2.2:Int) == b then some i else vD b es (i+1)
def aoH{c:Cx}{w:World}{b:Int}{es:List (Value×AV×Nat)}{fs:List MapEntry}(h:Nc c w es fs):fs.findIdx? (λe=>(e.born:Int) == b)=vD b es 0:=by
 have key:∀(es:List (Value×AV×Nat)) (fs:List MapEntry) (i:Nat),Nc c w es fs->vD b es i=(fs.findIdx? (λe=>(e.born:Int) == b)).map (·+i):=by
  intro es fs i h
  induction h generalizing i with
  |nil=>rfl
  |cons _ _ ih=>
   simp only[vD,List.findIdx?_cons];split;simp;rw[ih,Option.map_map];congr 1;funext x;simp;omega
 rw[key es fs 0 h];simp
def N5(s:AS)(x st v:AV):Option AS :=
 match x,st with
 |.mp id,.sc (.int _ b)=>match s.get id with
  |some (.map es cl)=>match vD b es 0 with
   |some j=>match es[j]? with|some e=>some (s.put id (.map (es.set j (e.1,v,e.2.2)) cl))|none=>none
   |none=>none
  |_=>none
 |_,_=>none
def Nc.get{c:Cx}{w:World}{es:List (Value×AV×Nat)}{fs:List MapEntry}(h:Nc c w es fs){j:Nat}{e:Value×AV×Nat}(he:es[j]?=some e):∃f,fs[j]?=some f/\f.key=e.1/\f.born=e.2.2:=by
 induction h generalizing j with
 |nil=>simp at he
 |cons h1 _ ih=>
  cases j with|zero=>simp at he;subst he;exact⟨_,rfl,rfl,rfl⟩|succ j=>simpa using ih (by simpa using he)
def fE{P:Program}{G:AN}{c:Cx}{w:World}{s s':AS}{t:TypeId}{x st v:AV}{vx vs vv:Value}(hs:St G c w s)(h:N5 s x st v=some s')(hx:Rp c w x vx)(Dc:Rp c w st vs)(hv:Rp c w v vv) :
   ∃w',(brT t vx vs vv).run P w=.ok () w'/\Ext c w c w'/\St G c w' s':=by
 unfold N5 at h;split at h
 ·rename_i id k b
  split at h
  ·rename_i es cl hb
   split at h
   ·rename_i j hj
    split at h
    ·rename_i e hej
     cases h;cases Dc;cases hx with
     |@mp _ g hid=>
      obtain⟨fs,hw,he⟩:=XV hs hid hb;obtain⟨f,hf,hfk,hfb⟩:=he.get hej;have arU:fs.toArray.modify j (λe=>{ e with val:=vv })=(fs.set j ⟨e.1,vv,e.2.2⟩).toArray:=WV hf (by rw[<- hfk,<- hfb])
      obtain⟨x1,st⟩:=hs.put (b:=.map (es.set j (e.1,v,e.2.2)) cl) (o:=.map (fs.set j ⟨e.1,vv,e.2.2⟩).toArray cl) hid (XX w g _) (Yz w hw) (.map (he.set hv j));refine⟨_,?_,x1,st⟩
      have hfi:fs.toArray.findIdx? (λe=>(e.born:Int) == b)=some j:=by rw[List.findIdx?_toArray,aoH he,hj]
      simp only[brT,biG,biD,KN hw,asInt,asIntOf,bjJ,hfi,arU];exact QB _ hw
    cases h
   cases h
  cases h
 cases h
end AI
namespace AI
open Go Go.RowKit
def byteOf:AV->Option UInt8
 |.sc (.int .u8 n)=>some (bqP n.toNat)
 |_=>none
def bytesOf:List AV->Option (List UInt8)
 |[]=>some []
 |a::l=>match byteOf a,bytesOf l with|some b,some m=>some (b::m)|_,_=>none
def ZY(P:Program)(src dst:TypeId):AV->Option AV
 |.sc v=>ZZ P (convert src dst v)
 |.sl _ n cs=>match P.underlying src,P.underlying dst with
  |some (.slice e),some .string=>(match P.underlying e with|some (.int .u8)=>if n=cs.length then (bytesOf cs).map λl=>.sc (.string ⟨l.toArray⟩) else none|_=>none)
  |_,_=>none
 |_=>none
def akP{c:Cx}{w:World}{a:AV}{b:UInt8}{v:Value}(h:byteOf a=some b)(hr:Rp c w a v):∃n,v=.int .u8 n/\bqP n.toNat=b:=by unfold byteOf at h;split at h;cases h;cases hr;exact⟨_,rfl,rfl⟩;cases h
def ahO(s:ByteArray)(l:List UInt8):ByteArray:=l.foldl bsO s
def yO:∀(l:List UInt8)(s:ByteArray),ahO s l=⟨s.data++l.toArray⟩
 |[],s=>by simp[ahO]
 |b::l,s=>by
  have:=yO l (s.push b);unfold ahO at this ⊢;rw[bsD,this];simp[bsO]
def fQ{P:Program}{c:Cx}{w w0:World}:∀{cs:List AV}{vs:List Value}{l:List UInt8}(s:ByteArray),Cw c w cs vs->bytesOf cs=some l ->
 (forIn vs s λ(x:Value)(s:ByteArray)=>(match x with
  |.int .u8 n=>(pure (bsF (s.push (bqP n.toNat))):Sem (ForInStep ByteArray))
  | _=>((λ_=>bsF s) <$> (stuck "bytesToString: byte expected":Sem PUnit):Sem (ForInStep ByteArray)))).run P w0=.ok (ahO s l) w0
 |[],_,_,s,h,hb=>by cases h;cases hb;rfl
 |a::cs,_,l,s,h,hb=>by
  cases h with
  |cons h1 t=>
   simp only[bytesOf] at hb;split at hb;rename_i b m h2 h3;cases hb;obtain⟨n,rfl,rfl⟩:=akP h2 h1;have:=fQ (P:=P) (w0:=w0) (s.push (bqP n.toNat)) t h3;simp only[List.forIn_cons,biG,bjJ,biD];exact this;cases hb
def aoJ{P:Program}{c:Cx}{w:World}{src dst:TypeId}{a r:AV}{v:Value}(h:ZY P src dst a=some r)(hr:Rp c w a v):∃u,(convert src dst v).run P w=.ok u w/\Rp c w r u:=by
 unfold ZY at h;split at h;cases hr;obtain⟨z,h1,h2⟩:=XT h c w w;exact⟨z,h1,h2⟩
 ·rename_i own n cs
  split at h
  ·rename_i e hs hd
   split at h
   ·rename_i he
    split at h
    ·rename_i hn
     obtain⟨l,hb,rfl⟩:=Option.map_eq_some_iff.1 h;refine⟨.string ⟨l.toArray⟩,?_,.sc rfl⟩;unfold convert;cases hr with
     |@sl0 _ A cap h0=>
      cases hb;cases A<;>simp[biG,run_underlying hs,run_underlying hd,run_underlying he,brE,loadCells,loadCellsFrom]<;>rfl
     |@Lt _ _ cap g o _ hn' hc ho=>
      obtain⟨vs,hvs,H8⟩:=hc.vals;have hlen:=hvs.len;have hld:=run_loadCells_list (P:=P) w ⟨g,o,none⟩ vs (λj v hj=>by rw[add_lit];exact(H8 j v hj).2.2);rw[hlen,<- hn] at hld;have hlp:=fQ (P:=P) (w0:=w) gT hvs hb;rw[yO] at hlp;simp[biG,run_underlying hs,run_underlying hd,run_underlying he,brE,hld];refine(congrArg (λr=>r.andThen λ(a:ByteArray) w'=>Result.ok (Value.string a) w') hlp).trans ?_;simp[gT,ByteArray.emptyWithCapacity];rfl
    cases h
   cases h
  cases h
 cases h
end AI
namespace AI
open Go Go.RowKit
def AY(G:AN)(fr:List AV):Operand->Option AV
 |.tmp t=>some (fr.getD t (.sc undef))
 |.const v=>aG v
 |.global g=>(G g).map .el
 |.func f=>some (.fn (.func f) [] [])
def Fh{G:AN}{c:Cx}{w:World}{s:AS}{fr:List AV}{a:Act}{x:Operand}{v:AV}(hs:St G c w s)(hf:Cw c w fr a.tmps.toList)(h:AY G fr x=some v):Rp c w v (a.eval x):=by
 cases x with
 |tmp t=>
  simp only[AY,atS] at h;subst h;simp only[Act.eval];rw[bjP];cases hg:fr[t]? with
  |some b=>
   obtain⟨u,hu,hr⟩:=hf.get hg;rw[biO] at hu;simp[hu,hr]
  |none=>
   have hl:=hf.len;have h1:=bnA.1 hg;have h2:a.tmps[t]?=none:=bmM (by rw[<- biR];omega);simp only[bjL,h2,Option.getD_none];exact .sc rfl
 |const v=>exact yD h c w
 |global g=>
  simp only[AY] at h;cases hg:G g with|none=>rw[hg] at h;cases h|some cs=>rw[hg] at h;cases h;exact .el (hs.Nh g cs hg)
 |func f=>simp only[AY,atS] at h;subst h;exact .fn (us:=[]) (vs:=[]) .nil .nil
def lS(G:AN)(fr:List AV):List Operand->Option (List AV)
 |[]=>some []
 |x::xs=>match AY G fr x,lS G fr xs with|some a,some as=>some (a::as)|_,_=>none
abbrev lP(G:AN)(c:Cx)(w:World)(fr:List AV)(ρ:Operand->Value)(x:Operand):Prop:=∀v,AY G fr x=some v->Rp c w v (ρ x)
def gF{G:AN}{c:Cx}{w:World}{fr:List AV}{ρ:Operand->Value}{xs:List Operand}{vs:List AV}(JO:∀x∈xs,lP G c w fr ρ x)(h:lS G fr xs=some vs):Cw c w vs (xs.map ρ):=by
 induction xs generalizing vs with
 |nil=>simp[lS] at h;subst h;exact .nil
 |cons x xs ih=>
  simp only[lS] at h;split at h;rename_i b bs h1 h2;cases h;exact .cons (JO x biK b h1) (ih (λy hy=>JO y (biB _ hy)) h2);cases h
def NL(G:AN)(fr:List AV):List (Nat×Operand)->Option (List (Nat×AV))
 |[]=>some []
 |x::xs=>match AY G fr x.2,NL G fr xs with|some a,some as=>some ((x.1,a)::as)|_,_=>none
def gE{G:AN}{c:Cx}{w:World}{fr:List AV}{ρ:Operand->Value}{xs:List (Nat×Operand)}{vs:List (Nat×AV)}(JO:∀x∈xs,lP G c w fr ρ x.2)(h:NL G fr xs=some vs):PL c w vs (xs.map λx=>(x.1,ρ x.2)):=by
 induction xs generalizing vs with
 |nil=>simp[NL] at h;subst h;exact .nil
 |cons x xs ih=>
  simp only[NL] at h;split at h;rename_i b bs h1 h2;cases h;exact .cons (JO x biK b h1) (ih (λy hy=>JO y (biB _ hy)) h2);cases h
def uZ(G:AN)(fr:List AV):Option Operand->Option (Option AV)
 |none=>some none
 |some x=>(AY G fr x).map some
def acH{G:AN}{c:Cx}{w:World}{fr:List AV}{ρ:Operand->Value}{x:Option Operand}{v:Option AV}(JO:∀y∈x.toArray,lP G c w fr ρ y)(h:uZ G fr x=some v):RO c w v (x.map ρ):=by
 cases x with
 |none=>simp[uZ] at h;subst h;exact .none
 |some x=>
  simp only[uZ] at h;cases hx:AY G fr x with|none=>rw[hx] at h;cases h|some b=>rw[hx] at h;cases h;exact .some (JO x (by simp) b hx)
inductive AR where
 |val (v:AV) (s:AS)
 |ent (f:FuncId) (args:List AV)
 |pan (v:AV)
def N9(P:Program)(g:FuncId):Bool:=match P.funcs[g]? with
 | some fn=>fn.name != "runtime.NumGoroutine"&&fn.body.isSome
 |none=>false
def notNil:AV->Bool
 |.ptr _ _ | .el _=>true
 |.fn (.func _) _ _=>true
 |_=>false
def isIface:TypeDesc->Bool
 |.interface _=>true
 |_=>false
def Wc(P:Program)(G:AN)(fr:List AV)(s:AS)(o:Oper)(cl:Call):Option AR :=
 match cl.callee with
 |.builtin .len=>match cl.args.toList,cl.argTypes.toList with|[x],[t]=>((AY G fr x).bind (aZ P s t)).map λv=>.val v s|_,_=>none
 |.builtin .append=>match cl.args.toList,cl.argTypes.toList with
  |[x,y],[t,tx]=>match AY G fr x,AY G fr y with|some a,some b=>(MG P s t tx a b).map λr=>.val r.1 r.2|_,_=>none
  |_,_=>none
 |.builtin .max=>((lS G fr cl.args.toList).bind Ry).bind λvs=>(ZZ P (btH cl.argTypes o.type vs.toArray)).map λv=>.val v s
 |.builtin .min=>((lS G fr cl.args.toList).bind Ry).bind λvs=>(ZZ P (btI cl.argTypes o.type vs.toArray)).map λv=>.val v s
 |.value f=>match AY G fr f,lS G fr cl.args.toList with|some (.fn (.func g) first caps),some as=>if N9 P g=true then some (.ent g (first++as++caps)) else none|_,_=>none
 |_=>none
def SR(P:Program)(G:AN)(fr:List AV)(s:AS)(o:Oper):Option AR :=
 match o.op with
 |.move x=>(AY G fr x).map λv=>.val v s
 |.assign x=>(AY G fr x).map λv=>.val v s
 |.pick c a b=>match AY G fr c with|some (.sc (.bool t))=>(if t then AY G fr a else AY G fr b).map λv=>.val v s|_=>none
 |.alloc e=>(N6 P e).map λz=>.val (.ptr s.nx 0) (s.new (.cells (cellsOf z)))
 |.box _ x=>(AY G fr x).bind λz=>match UZ z with|true=>none|false=>some (.val (.ptr s.nx 0) (s.new (.cells (cellsOf z))))
 |.build t ps=>((NL G fr ps.toList).bind (fC P t)).map λv=>.val v s
 |.buildSlice t n ps=>((NL G fr ps.toList).bind (N4 P t n)).map λv=>.val v s
 |.load t a=>((AY G fr a).bind (J9 P s t)).map λv=>.val v s
 |.store t a x=>match AY G fr a,AY G fr x with|some a,some x=>(Lf P s t a x).map λs'=>.val (.sc undef) s'|_,_=>none
 |.nilCheck x=>match AY G fr x with|some v=>if notNil v=true then some (.val v s) else none|none=>none
 |.binOp op t x y _=>match AY G fr x,AY G fr y with|some a,some b=>(N3 P op t x y a b).map λv=>.val v s|_,_=>none
 |.unOp op _ x=>((AY G fr x).bind kF).bind λv=>(ZZ P (btN op v)).map λv=>.val v s
 |.convert src dst x=>((AY G fr x).bind λa=>ZY P src dst a).map λv=>.val v s
 |.makeInterface t x=>match AY G fr x,P.underlying t with|some v,some d=>if isIface d=true then none else some (.val (.ifc t v) s)|_,_=>none
 |.makeFunc f first caps=>match lS G fr first.toList,lS G fr caps.toList with|some a,some b=>some (.val (.fn f a b) s)|_,_=>none
 |.makeMap _ none=>some (.val (.mp s.nx) (s.new (.map [] 0)))
 |.makeSlice t l c=>match AY G fr l,AY G fr c with|some a,some b=>(Km P s t a b).map λr=>.val r.1 r.2|_,_=>none
 |.slice t x lo hi mx=>match AY G fr x,uZ G fr lo,uZ G fr hi,uZ G fr mx with|some a,some l,some h,some m=>(Nn P t a l h m).map λv=>.val v s|_,_,_,_=>none
 |.fieldAddr t x k=>((AY G fr x).bind λa=>UA P t a k).map λv=>.val v s
 |.field t x k=>((AY G fr x).bind λa=>fF P t a k).map λv=>.val v s
 |.indexAddr t x i=>match AY G fr x,AY G fr i with|some a,some b=>(CQ P t a b).map λv=>.val v s|_,_=>none
 |.index t x i=>match AY G fr x,AY G fr i with|some a,some b=>(MH P t a b).map λv=>.val v s|_,_=>none
 |.lookup t x k ok=>match AY G fr x,AY G fr k with|some a,some b=>(Ka P s t a b ok).map λv=>.val v s|_,_=>none
 |.mapUpdate t m k x=>match AY G fr m,AY G fr k,AY G fr x with|some a,some b,some v=>(LW P s t a b v).map λs'=>.val (.sc undef) s'|_,_,_=>none
 |.insert t m k x=>match AY G fr m,AY G fr k,AY G fr x with|some a,some b,some v=>(LW P s t a b v).map λs'=>.val (.sc undef) s'|_,_,_=>none
 |.mapEntry t m k=>match AY G fr m,AY G fr k with|some a,some b=>(Si P s t a b).map λr=>.val r.1 r.2|_,_=>none
 |.entryStore _ m st x=>match AY G fr m,AY G fr st,AY G fr x with|some a,some b,some v=>(N5 s a b v).map λs'=>.val (.sc undef) s'|_,_,_=>none
 |.extract x k=>((AY G fr x).bind λa=>Uz a k).map λv=>.val v s
 |.call cl=>Wc P G fr s o cl
 |.panic x=>match AY G fr x with|some (.ifc t v)=>some (.pan (.ifc t v))|_=>none
 |_=>none
def eZ(_P:Program)(G:AN)(c:Cx)(w:World)(r:Result Next):AR->Prop
 |.val v s'=>∃u w' c',(r=.ok (.value u) w'\/(r=.ok .skip w'/\u=undef))/\Ext c w c' w'/\St G c' w' s'/\Rp c' w' v u
 |.ent f args=>∃vs,r=.ok (.enter f vs.toArray) w/\Cw c w args vs
 |.pan v=>∃u,r=.halt (.panic u) w/\Rp c w v u
def Fi{P:Program}{G:AN}{c:Cx}{w:World}{s:AS}{v:AV}{m:Sem Value}(hs:St G c w s)(h:∃u,m.run P w=.ok u w/\Rp c w v u):eZ P G c w ((do pure (Next.value (<- m)):Sem Next).run P w) (.val v s):=by obtain⟨u,h1,h2⟩:=h;exact⟨u,w,c,.inl (by simp[h1]),Ext.refl c w,hs,h2⟩
def PY{P:Program}{G:AN}{c:Cx}{w:World}{s':AS}{v:AV}{m:Sem Value}(h:∃u w' c',m.run P w=.ok u w'/\Ext c w c' w'/\St G c' w' s'/\Rp c' w' v u):eZ P G c w ((do pure (Next.value (<- m)):Sem Next).run P w) (.val v s'):=by obtain⟨u,w',c',h1,h2⟩:=h;exact⟨u,w',c',.inl (by simp[h1]),h2⟩
def VC{P:Program}{G:AN}{c:Cx}{w:World}{s':AS}{m:Sem Unit}(h:∃w',m.run P w=.ok () w'/\Ext c w c w'/\St G c w' s'):eZ P G c w ((do m;pure Next.skip:Sem Next).run P w) (.val (.sc undef) s'):=by obtain⟨w',h1,h2,h3⟩:=h;exact⟨undef,w',c,.inr ⟨by simp[h1],rfl⟩,h2,h3,.sc rfl⟩
def map_some{α β:Type}{o:Option α}{f:α->β}{b:β}(h:o.map f=some b):∃a,o=some a/\f a=b:=by cases o with|none=>cases h|some a=>exact⟨a,rfl,by simpa using h⟩
def bind_some{α β:Type}{o:Option α}{f:α->Option β}{b:β}(h:o.bind f=some b):∃a,o=some a/\f a=some b:=by cases o with|none=>cases h|some a=>exact⟨a,rfl,by simpa using h⟩
end AI
namespace AI
open Go Go.RowKit
def UI{P:Program}{g:FuncId}(h:N9 P g=true)(args:Array Value)(w:World):(callFunc g args).run P w=.ok (.enter g args) w:=by unfold N9 at h;split at h;rename_i fn hf;simp only[bhB,bne_iff_ne,ne_eq] at h;obtain⟨b,hb⟩:=bnD.1 h.2;simp[callFunc,hf,h.1,hb];cases h
def aoI{P:Program}{G:AN}{c:Cx}{w:World}{s:AS}{fr:List AV}{ρ:Operand->Value}{o:Oper}{cl:Call}{r:AR}(hs:St G c w s)(JO:∀x∈cl.operands,lP G c w fr ρ x)(h:Wc P G fr s o cl=some r) :
   eZ P G c w ((do let d <- resolve ρ cl o.type;invoke d.target d.args:Sem Next).run P w) r:=by
 have GL:∀x∈cl.args.toList,lP G c w fr ρ x:=λx hx=>JO x (by simp only[bqY,blV];exact .inr (bkZ.1 hx));unfold Wc at h;split at h;rename_i IX;split at h;rename_i x t hx ht;obtain⟨v,h1,rfl⟩:=map_some h;obtain⟨b,h2,h3⟩:=bind_some h1;have e1:cl.args=#[x]:=by apply bjG;rw[hx]
 have e2:cl.argTypes=#[t]:=by apply bjG;rw[ht]
 have:=Fi hs (azJ (ty:=o.type) hs h3 (GL x (by rw[hx];simp) _ h2));simpa[resolve,IX,e1,e2,invoke,builtin] using this
 cases h;rename_i IX;split at h;rename_i x y t tx hx ht;split at h;rename_i b d h2 h3;obtain⟨v,h1,rfl⟩:=map_some h;have e1:cl.args=#[x,y]:=by apply bjG;rw[hx]
 have e2:cl.argTypes=#[t,tx]:=by apply bjG;rw[ht]
 have:=PY (abP (ty:=o.type) hs h1 (GL x (by rw[hx];simp) _ h2) (GL y (by rw[hx];simp) _ h3));simpa[resolve,IX,e1,e2,invoke,builtin] using this
 cases h;cases h;rename_i IX;obtain⟨vs,h1,h2⟩:=bind_some h;obtain⟨v,h3,rfl⟩:=map_some h2;obtain⟨as,h4,h5⟩:=bind_some h1;have e:=kG h5 (gF GL h4);have e1:cl.args.map ρ=vs.toArray:=by apply bjG;rw[<- e];simp
 have:=Fi hs (XT h3 c w w);simpa[resolve,IX,e1,invoke,builtin] using this
 rename_i IX;obtain⟨vs,h1,h2⟩:=bind_some h;obtain⟨v,h3,rfl⟩:=map_some h2;obtain⟨as,h4,h5⟩:=bind_some h1;have e:=kG h5 (gF GL h4);have e1:cl.args.map ρ=vs.toArray:=by apply bjG;rw[<- e];simp
 have:=Fi hs (XT h3 c w w);simpa[resolve,IX,e1,invoke,builtin] using this
 ·rename_i f IX
  split at h
  ·rename_i g first caps as h1 h2
   split at h
   ·rename_i hc
    cases h;have hr:=JO f (by simp[bqY,IX]) _ h1;have GL:=gF GL h2;generalize hv:ρ f=v at hr;cases hr with
    |@fn _ _ _ us vs q1 q2=>
     refine⟨us++cl.args.toList.map ρ++vs,?_,(q1.append GL).append q2⟩
     have e3:(us++cl.args.toList.map ρ++vs).toArray=us.toArray++Array.map ρ cl.args++vs.toArray:=by apply bjG;simp
     rw[e3];simp only[resolve,IX,hv,biG,Deferred.ofValue,bjJ,biD,invoke,UI hc]
   cases h
  cases h
 cases h
def qF{P:Program}{G:AN}{c:Cx}{w:World}{s:AS}{fr:List AV}{ρ:Operand->Value}{o:Oper}{r:AR}(hs:St G c w s)(JO:∀x∈o.op.operands,lP G c w fr ρ x)(hρ:∀k,ρ (.const k)=k)(h:SR P G fr s o=some r) :
   eZ P G c w ((execOp ρ o).run P w) r:=by
 unfold SR at h;split at h;rename_i x ho;obtain⟨v,h1,rfl⟩:=map_some h;simp only[execOp,ho];exact⟨_,w,c,.inl rfl,Ext.refl c w,hs,JO x (by rw[ho];simp[biL]) v h1⟩;rename_i x ho;obtain⟨v,h1,rfl⟩:=map_some h;simp only[execOp,ho];exact⟨_,w,c,.inl rfl,Ext.refl c w,hs,JO x (by rw[ho];simp[biL]) v h1⟩;rename_i x y z ho;split at h;rename_i t hc;obtain⟨v,h1,rfl⟩:=map_some h;have hb:=JO x (by rw[ho];simp[biL]) _ hc;generalize hv:ρ x=vx at hb;cases hb;simp only[execOp,ho,hv];refine⟨if t then ρ y else ρ z,w,c,.inl (by simp[asBool]),Ext.refl c w,hs,?_⟩
 cases t;exact JO z (by rw[ho];simp[biL]) v h1;exact JO y (by rw[ho];simp[biL]) v h1;cases h;rename_i e ho;obtain⟨z,h1,rfl⟩:=map_some h;obtain⟨zv,hzr,hzp⟩:=XU h1 c w w;obtain⟨v',w',c',h2,h3⟩:=afO (P:=P) (t:=e) hs hzp (mW h1);simp only[execOp,ho];refine PY ⟨v',w',c',?_,h3⟩;simp only[bpV,biG] at h2;simp only[Instr.alloc,biG,hzr,biD];exact h2;rename_i e x ho;obtain⟨z,h1,h⟩:=bind_some h;split at h;cases h;rename_i hz;cases h;simp only[execOp,ho];exact PY (afO (P:=P) (t:=e) hs (JO x (by rw[ho];simp[biL]) z h1) hz);rename_i t ps ho;obtain⟨v,h1,rfl⟩:=map_some h;obtain⟨qs,h2,h3⟩:=bind_some h1;simp only[execOp,ho];refine Fi hs (akD (qs:=ps.map λx=>(x.1,ρ x.2)) h3 (by simpa using gE (ρ:=ρ) (λx hx=>JO x.2 (by rw[ho];simp only[biL,bpX,bkR];exact⟨x,hx,rfl⟩)) h2) w)
 rename_i t n ps ho;obtain⟨v,h1,rfl⟩:=map_some h;obtain⟨qs,h2,h3⟩:=bind_some h1;simp only[execOp,ho];obtain⟨u,w',q1,q2⟩:=fD (qs:=ps.map λx=>(x.1,ρ x.2)) hs h3 (by simpa using gE (ρ:=ρ) (λx hx=>JO x.2 (by rw[ho];simp only[biL,bpX,bkR];exact⟨x,hx,rfl⟩)) h2)
 exact PY ⟨u,w',c,q1,q2⟩;rename_i t x ho;obtain⟨v,h1,rfl⟩:=map_some h;obtain⟨b,h2,h3⟩:=bind_some h1;simp only[execOp,ho];exact Fi hs (vI hs h3 (JO x (by rw[ho];simp[biL]) b h2));rename_i t x y ho;split at h;rename_i b d h2 h3;obtain⟨s',h1,rfl⟩:=map_some h;simp only[execOp,ho];exact VC (akK hs h1 (JO x (by rw[ho];simp[biL]) b h2) (JO y (by rw[ho];simp[biL]) d h3));cases h
 ·rename_i x ho
  split at h
  ·rename_i v h1
   split at h
   ·rename_i hn
    cases h;have hr:=JO x (by rw[ho];simp[biL]) v h1;simp only[execOp,ho];generalize ρ x=vx at hr;cases hr with
    |ptr q=>exact⟨_,w,c,.inl rfl,Ext.refl c w,hs,.ptr q⟩
    |el q=>exact⟨_,w,c,.inl rfl,Ext.refl c w,hs,.el q⟩
    |@fn f _ _ us vs q1 q2=>
     cases f with|func g=>exact⟨_,w,c,.inl rfl,Ext.refl c w,hs,.fn q1 q2⟩|_=>simp[notNil] at hn
    |_=>simp[notNil] at hn
   cases h
  cases h
 rename_i op t x y yt ho;split at h;rename_i b d h2 h3;obtain⟨v,h1,rfl⟩:=map_some h;simp only[execOp,ho];exact Fi hs (azH h1 (JO x (by rw[ho];simp[biL]) b h2) (JO y (by rw[ho];simp[biL]) d h3) (λk hk=>by rw[hk];exact hρ k) w);cases h;rename_i op t x ho;obtain⟨v,h1,h2⟩:=bind_some h;obtain⟨b,h3,h4⟩:=bind_some h1;obtain⟨q,h5,rfl⟩:=map_some h2;have e:=YH h4 (JO x (by rw[ho];simp[biL]) b h3);simp only[execOp,ho,e];exact Fi hs (XT h5 c w w);rename_i src dst x ho;obtain⟨q,h1,rfl⟩:=map_some h;obtain⟨b,h3,h4⟩:=bind_some h1;simp only[execOp,ho];exact Fi hs (aoJ h4 (JO x (by rw[ho];simp[biL]) b h3))
 ·rename_i t x ho
  split at h
  ·rename_i v d h1 hd
   split at h;cases h
   ·rename_i hi
    cases h;simp only[execOp,ho];refine Fi hs ⟨.iface t (ρ x),?_,.ifc (JO x (by rw[ho];simp[biL]) v h1)⟩;unfold Instr.makeInterface;rw[biG,run_underlying hd];cases d<;>first | rfl | (simp[isIface] at hi;done)
  cases h
 rename_i f first caps ho
 split at h;rename_i b d h2 h3;cases h;simp only[execOp,ho];refine Fi hs ⟨.func f (first.map ρ) (caps.map ρ),rfl,?_⟩
 have:=Rp.fn (f:=f) (gF (ρ:=ρ) (λx hx=>JO x (by rw[ho];simp only[biL,blV];exact .inl (bkZ.1 hx))) h2) (gF (ρ:=ρ) (λx hx=>JO x (by rw[ho];simp only[biL,blV];exact .inr (bkZ.1 hx))) h3);rwa[show(first.toList.map ρ).toArray=first.map ρ from by apply bjG;simp,show(caps.toList.map ρ).toArray=caps.map ρ from by apply bjG;simp] at this
 cases h;rename_i t ho;cases h;simp only[execOp,ho];exact PY (vJ (P:=P) (t:=t) hs);rename_i t x y ho;split at h;rename_i b d h2 h3;obtain⟨v,h1,rfl⟩:=map_some h;simp only[execOp,ho];exact PY (lR hs h1 (JO x (by rw[ho];simp[biL]) b h2) (JO y (by rw[ho];simp[biL]) d h3));cases h;rename_i t x lo hi mx ho;split at h;rename_i b l hh m h2 h3 h4 h5;obtain⟨v,h1,rfl⟩:=map_some h;simp only[execOp,ho];exact Fi hs (akJ h1 (JO x (by rw[ho];simp[biL]) b h2) (acH (λy hy=>JO y (by rw[ho];simp only[biL,blV];exact .inl (.inl (.inr hy)))) h3) (acH (λy hy=>JO y (by rw[ho];simp only[biL,blV];exact .inl (.inr hy))) h4) (acH (λy hy=>JO y (by rw[ho];simp only[biL,blV];exact .inr hy)) h5));cases h;rename_i t x k ho;obtain⟨v,h1,rfl⟩:=map_some h;obtain⟨b,h2,h3⟩:=bind_some h1;simp only[execOp,ho];exact Fi hs (vF h3 (JO x (by rw[ho];simp[biL]) b h2));rename_i t x k ho;obtain⟨v,h1,rfl⟩:=map_some h;obtain⟨b,h2,h3⟩:=bind_some h1;simp only[execOp,ho];exact Fi hs (akF h3 (JO x (by rw[ho];simp[biL]) b h2) w);rename_i t x y ho;split at h;rename_i b d h2 h3;obtain⟨v,h1,rfl⟩:=map_some h;simp only[execOp,ho];exact Fi hs (vG h1 (JO x (by rw[ho];simp[biL]) b h2) (JO y (by rw[ho];simp[biL]) d h3));cases h;rename_i t x y ho;split at h;rename_i b d h2 h3;obtain⟨v,h1,rfl⟩:=map_some h;simp only[execOp,ho];exact Fi hs (akG h1 (JO x (by rw[ho];simp[biL]) b h2) (JO y (by rw[ho];simp[biL]) d h3) w);cases h;rename_i t x k ok ho;split at h;rename_i b d h2 h3;obtain⟨v,h1,rfl⟩:=map_some h;simp only[execOp,ho];exact Fi hs (abT hs h1 (JO x (by rw[ho];simp[biL]) b h2) (JO k (by rw[ho];simp[biL]) d h3));cases h;rename_i t m k x ho;split at h;rename_i b d e h2 h3 h4;obtain⟨s',h1,rfl⟩:=map_some h;simp only[execOp,ho];exact VC (fI hs h1 (JO m (by rw[ho];simp[biL]) b h2) (JO k (by rw[ho];simp[biL]) d h3) (JO x (by rw[ho];simp[biL]) e h4));cases h;rename_i t m k x ho;split at h;rename_i b d e h2 h3 h4;obtain⟨s',h1,rfl⟩:=map_some h;simp only[execOp,ho];exact VC (fI hs h1 (JO m (by rw[ho];simp[biL]) b h2) (JO k (by rw[ho];simp[biL]) d h3) (JO x (by rw[ho];simp[biL]) e h4));cases h;rename_i t m k ho;split at h;rename_i b d h2 h3;obtain⟨v,h1,rfl⟩:=map_some h;simp only[execOp,ho];obtain⟨u,w',q1,q2⟩:=qB hs h1 (JO m (by rw[ho];simp[biL]) b h2) (JO k (by rw[ho];simp[biL]) d h3);exact PY ⟨u,w',c,q1,q2⟩;cases h;rename_i t m st x ho;split at h;rename_i b d e h2 h3 h4;obtain⟨s',h1,rfl⟩:=map_some h;simp only[execOp,ho];exact VC (fE hs h1 (JO m (by rw[ho];simp[biL]) b h2) (JO st (by rw[ho];simp[biL]) d h3) (JO x (by rw[ho];simp[biL]) e h4));cases h;rename_i x k ho;obtain⟨v,h1,rfl⟩:=map_some h;obtain⟨b,h2,h3⟩:=bind_some h1;simp only[execOp,ho];exact Fi hs (vE h3 (JO x (by rw[ho];simp[biL]) b h2) w);rename_i cl ho;simp only[execOp,ho];exact aoI hs (λx hx=>JO x (by rw[ho];exact hx)) h;rename_i x ho;split at h;rename_i t v h1;cases h;have hr:=JO x (by rw[ho];simp[biL]) _ h1;simp only[execOp,ho];generalize ρ x=vx at hr;cases hr with|ifc q=>exact⟨_,by simp[Instr.panic],.ifc q⟩
 cases h;cases h
def abS{P:Program}{G:AN}{c:Cx}{w:World}{s:AS}{ρ:Operand->Value}{o:Oper}{e:TypeId}{z:AV}{id:Nat}(hs:St G c w s)(ho:o.op=.alloc e)(hz:N6 P e=some z)(hid:c.Ce[id]?=some none)(Pn:s.get id=some (.cells (cellsOf z))) :
   ∃u w' c',(execOp ρ o).run P w=.ok (.value u) w'/\Mon c w c' w'/\St G c' w' s/\Rp c' w' (.ptr id 0) u/\(∀c0 w0,Ext c0 w0 c w->c0.Ce.length<=id->Ext c0 w0 c' w')/\∀i,i≠id->c'.Ce[i]?=c.Ce[i]?:=by
 obtain⟨zv,hzr,hzp⟩:=XU hz c w w;obtain⟨v',w',c',h2,h3⟩:=akC (P:=P) (t:=e) hs hzp (mW hz) hid Pn;refine⟨v',w',c',?_,h3⟩;simp only[execOp,ho];simp only[bpV,biG] at h2;simp only[Instr.alloc,biG,hzr,biD];rw[h2];simp
end AI
namespace AI
open Go Go.RowKit
def WT(acc:List Nat):List Edge->Nat
 |[]=>0
 |e::es=>if bnQ .any e then WT acc es ||| 2 ^ e.on ||| acc.getD e.on 0 else WT acc es
def I7:List Oper->List Nat->List Nat
 |[],acc=>acc
 |o::os,acc=>I7 os (acc++[WT acc o.after.toList])
def Met(L:Nat->Bool)(o:Oper):Prop:=∀e∈o.after,bnQ .any e=true->L e.on=true
def PO(ops:List Oper)(L:Nat->Bool):Prop:=∀i o,ops[i]?=some o->L i=true->Met L o
def alR{ops:List Oper}{L:Nat->Bool}(hc:PO ops L){acc:List Nat}(rI:∀(j:Nat) m,acc[j]?=some m->∀o,ops[j]?=some o->∀i,m.testBit i=true->Met L o->L i=true)(hlen:acc.length<=ops.length)
   (es:List Edge) {i:Nat} (hb:(WT acc es).testBit i=true) (hm:∀e∈es,bnQ .any e=true->L e.on=true):L i=true:=by
 induction es with
 |nil=>simp[WT] at hb
 |cons e es ih=>
  simp only[WT] at hb;split at hb
  ·rename_i hbe
   rw[bsP,bsP,bqJ,bqJ] at hb;have he:=hm e biK hbe;rcases hb with (hb | hb) | hb
   exact ih hb (λe he=>hm e (biB _ he));rw[Nat.testBit_two_pow] at hb;have:e.on=i:=by simpa using hb
   rw[<- this];exact he
   ·rw[bjP] at hb
    cases hg:acc[e.on]? with
    |none=>rw[hg] at hb;simp at hb
    |some m=>
     rw[hg] at hb;have hl:=(aBC.1 hg).1;have hl2:e.on < ops.length:=by omega
     exact rI e.on m hg ops[e.on] (aBD hl2) i hb (hc e.on _ (aBD hl2) he)
  exact ih hb (λe he=>hm e (biB _ he))
def atO{ops:List Oper}{L:Nat->Bool}(hc:PO ops L):∀(os:List Oper)(acc:List Nat),(∀k,os[k]?=ops[acc.length+k]?)->acc.length<=ops.length->(∀(j:Nat) m,acc[j]?=some m->∀o,ops[j]?=some o->∀i,m.testBit i=true->Met L o->L i=true) ->
 ∀(j:Nat) m,(I7 os acc)[j]?=some m->∀o,ops[j]?=some o->∀i,m.testBit i=true->Met L o->L i=true:=by
 intro os
 induction os with
 |nil=>intro acc _ _ rI;exact rI
 |cons o os ih=>
  intro acc hk hl rI;have h0:ops[acc.length]?=some o:=by have:=hk 0;simpa using this.symm
  have hlt:=(aBC.1 h0).1;refine ih (acc++[WT acc o.after.toList]) (λk=>?_) (by simp;omega) (λj m hj o' Wj i hb hm=>?_);have:=hk (k+1);simp only[List.getElem?_cons_succ] at this;rw[this];congr 1;simp;omega;by_cases hjl:j < acc.length;rw[bhD hjl] at hj;exact rI j m hj o' Wj i hb hm;have hl2:=(aBC.1 hj).1;simp at hl2;have:j=acc.length:=by omega
  subst this;rw[bjT] at hj;cases hj;rw[h0] at Wj;cases Wj;exact alR hc rI hl _ hb (λe he=>hm e (bkZ.1 he))
def VB(ms:List Nat)(j i:Nat):Bool:=(ms.getD j 0).testBit i
def fX{ops:List Oper}{L:Nat->Bool}(hc:PO ops L){j i:Nat}{o:Oper}(ho:ops[j]?=some o)(hm:Met L o)(hd:VB (I7 ops []) j i=true):L i=true:=by
 unfold VB at hd;rw[bjP] at hd;cases hg:(I7 ops [])[j]? with
 |none=>rw[hg] at hd;simp at hd
 |some m=>
  rw[hg] at hd;exact atO hc ops [] (λk=>by simp) (by simp) (λj m h=>by simp at h) j m hg o ho i hd hm
def quiet:Op->Bool
 |.move _ | .assign _ | .pick .. | .build .. | .buildSlice .. | .load .. | .nilCheck _ | .binOp .. | .unOp .. | .convert .. | .makeInterface .. | .makeFunc .. | .slice .. | .fieldAddr .. | .field .. | .indexAddr .. | .index .. | .lookup .. | .extract ..=>true
 |.call cl=>(match cl.callee with
  |.builtin .len | .builtin .max | .builtin .min=>true
  |_=>false)
 |_=>false
def BX:Op->Bool
 |.alloc _=>true
 |_=>false
def L8{op:Op}(h:BX op=true):∃e,op=.alloc e:=by unfold BX at h;split at h;exact⟨_,rfl⟩;cases h
def calm(op:Op):Bool:=match BX op with|true=>true|false=>quiet op
def fT{op:Op}(h:quiet op=true):calm op=true:=by unfold calm;cases BX op;exact h;rfl
def fS{op:Op}(h:calm op=true):quiet op=true\/∃e,op=.alloc e:=by unfold calm at h;cases ha:BX op with|true=>exact .inr (L8 ha)|false=>rw[ha] at h;exact .inl h
def rkL:List Oper->Nat->Nat
 |_,0=>0
 |[],_+1=>0
 |o::l,n+1=>(match BX o.op with | true=>1 | false=>0)+rkL l n
def rk(ops:Array Oper)(i:Nat):Nat:=rkL ops.toList i
def aeC{l:List Oper}{i j:Nat}{o:Oper}(ho:l[i]?=some o)(ha:BX o.op=true)(h:i < j):rkL l i < rkL l j:=by
 induction l generalizing i j with
 |nil=>simp at ho
 |cons x l ih=>
  cases j with
  |zero=>omega
  |succ j=>
   cases i with
   |zero=>
    simp at ho;subst ho;simp only[rkL,ha];omega
   |succ i=>
    have:=ih (i:=i) (j:=j) (by simpa using ho) (by omega)
    simp only[rkL];omega
def aRE{ops:Array Oper}{i j:Nat}{x y:Oper}(hx:ops[i]?=some x)(hy:ops[j]?=some y)(hxa:BX x.op=true)(rV:BX y.op=true)(h:rk ops i=rk ops j):i=j:=by
 have Ze:ops.toList[i]?=some x:=by rw[biO];exact hx
 have hy':ops.toList[j]?=some y:=by rw[biO];exact hy
 unfold rk at h;rcases brJ i j with hlt | he | hlt
 have:=aeC Ze hxa hlt;omega;exact he;have:=aeC hy' rV hlt;omega
def Sr(ops:Array Oper)(x y:Oper):Bool :=
 (!calm x.op&&!calm y.op) ||
 (match x.dst with
  |some d=>(y.looksAt ops).contains d||y.dst == some d
  |none=>false) ||
 (match y.dst with|some d=>(x.looksAt ops).contains d|none=>false)
def iY(ops:Array Oper)(ms:List Nat)(j:Nat)(y:Oper):List Oper->Nat->Bool
 |[],_=>true
 |x::xs,i=>(if i < j then !Sr ops x y||VB ms j i else true)&&iY ops ms j y xs (i+1)
def dM(ops:Array Oper)(ms:List Nat):List Oper->Nat->Bool
 |[],_=>true
 |y::ys,j=>iY ops ms j y ops.toList 0&&(y.after.toList.all λe=>!Region.binds .any e||decide (e.on < j))&&dM ops ms ys (j+1)
def Oh(ops:Array Oper):Bool:=dM ops (I7 ops.toList []) ops.toList 0
def alZ{ops:Array Oper}{ms:List Nat}{j:Nat}{y:Oper}:∀(xs:List Oper)(i:Nat),iY ops ms j y xs i=true->∀k x,xs[k]?=some x->i+k < j->Sr ops x y=true->VB ms j (i+k)=true:=by
 intro xs
 induction xs with
 |nil=>intro i _ k x hx;simp at hx
 |cons z xs ih=>
  intro i h k x hx hlt IX;simp only[iY,bhB] at h;cases k with
  |zero=>
   simp at hx;subst hx;rw[bjU] at hlt ⊢;have:=h.1;rw[if_pos hlt,IX] at this;simpa using this
  |succ k=>
   have:=ih (i+1) h.2 k x (by simpa using hx) (by omega) IX
   rwa[show i+1+k=i+(k+1) from by omega] at this
def iZ{ops:Array Oper}{ms:List Nat}:∀(ys:List Oper)(j:Nat),dM ops ms ys j=true->∀k y,ys[k]?=some y->iY ops ms (j+k) y ops.toList 0=true/\∀e∈y.after,bnQ .any e=true->e.on < j+k:=by
 intro ys
 induction ys with
 |nil=>intro j _ k y hy;simp at hy
 |cons z ys ih=>
  intro j h k y hy;simp only[dM,bhB] at h;cases k with
  |zero=>
   simp at hy;subst hy;refine⟨h.1.1,λe he hb=>?_⟩;have:=bjM.1 h.1.2 e (bkZ.2 he);rw[hb] at this;simpa using this
  |succ k=>
   have:=ih (j+1) h.2 k y (by simpa using hy)
   rwa[show j+1+k=j+(k+1) from by omega] at this
def oJ{ops:Array Oper}(h:Oh ops=true){i j:Nat}{x y:Oper}(hx:ops[i]?=some x)(hy:ops[j]?=some y)(hlt:i < j)(hc:Sr ops x y=true):VB (I7 ops.toList []) j i=true:=by have h1:=(iZ ops.toList 0 h j y (by rw[biO];exact hy)).1;rw[bhC] at h1;have:=alZ ops.toList 0 h1 i x (by rw[biO];exact hx) (by omega) hc;rwa[bhC] at this
def yH{ops:Array Oper}(h:Oh ops=true){j:Nat}{y:Oper}(hy:ops[j]?=some y){e:Edge}(he:e∈y.after)(hb:bnQ .any e=true):e.on < j:=by have:=(iZ ops.toList 0 h j y (by rw[biO];exact hy)).2 e he hb;omega
def JB(fr:List AV)(dst:Option Tmp)(v:AV):List AV:=match dst with|some d=>fr.set d v|none=>fr
def Q3{c:Cx}{w:World}{fr:List AV}{a:Act}{dst:Option Tmp}{v:AV}{u:Value}(h:Cw c w fr a.tmps.toList)(hv:Rp c w v u):Cw c w (JB fr dst v) (a.put dst u).tmps.toList:=by cases dst with|none=>exact h|some d=>simp only[JB,Act.put,Array.toList_setIfInBounds];exact h.set hv d
def Js(f0:List AV)(dst:Nat->Option Tmp)(vals:Nat->AV)(L:Nat->Bool):Nat->List AV
 |0=>f0
 |n+1=>if L n then JB (Js f0 dst vals L n) (dst n) (vals n) else Js f0 dst vals L n
def UC{fr:List AV}{dst:Option Tmp}{v:AV}{t:Nat}(h:dst≠some t):(JB fr dst v)[t]?=fr[t]?:=by cases dst with|none=>rfl|some d=>exact bjB (λe=>h (by rw[e]))
def aoL{fr:List AV}{dst:Option Tmp}{v:AV}:(JB fr dst v).length=fr.length:=by cases dst<;>simp[JB]
def Q1{fr:List AV}{v:AV}{t:Nat}:(JB fr (some t) v)[t]?=if t < fr.length then some v else none:=by simp[JB,bpH]
def cZ(f0:List AV)(dst:Nat->Option Tmp)(vals:Nat->AV)(L:Nat->Bool)(n:Nat):(Js f0 dst vals L n).length=f0.length:=by induction n with|zero=>rfl|succ n ih=>simp only[Js];split<;>simp[aoL,ih]
def gH{f0:List AV}{dst:Nat->Option Tmp}{vals:Nat->AV}{L M:Nat->Bool}{t:Nat}:∀(n:Nat),(∀i,i < n->dst i=some t->L i=M i)->(Js f0 dst vals L n)[t]?=(Js f0 dst vals M n)[t]?:=by
 intro n
 induction n with
 |zero=>intro _;rfl
 |succ n ih=>
  intro h;have ih:=ih (λi hi hd=>h i (by omega) hd);by_cases hd:dst n=some t;have:=h n (by omega) hd;simp only[Js,this];split;rw[hd,Q1,Q1,cZ,cZ];exact ih
  have e:∀K:Nat->Bool,(Js f0 dst vals K (n+1))[t]?=(Js f0 dst vals K n)[t]?:=by intro K;simp only[Js];split;exact UC hd;rfl
  rw[e,e,ih]
def agD{f0:List AV}{dst:Nat->Option Tmp}{vals:Nat->AV}{L:Nat->Bool}{t j:Nat}:∀(n:Nat),j<=n->(∀i,j<=i->i < n->dst i=some t->L i=false)->(Js f0 dst vals L n)[t]?=(Js f0 dst vals L j)[t]?:=by
 intro n
 induction n with
 | zero=>intro hj _;have:j=0:=by omega
         subst this;rfl
 |succ n ih=>
  intro hj h;by_cases hn:j=n+1;subst hn;rfl;have ih:=ih (by omega) (λi h1 h2 hd=>h i h1 (by omega) hd);rw[<- ih];simp only[Js];split;rename_i hL;by_cases hd:dst n=some t;have:=h n (by omega) (by omega) hd;rw[this] at hL;cases hL;exact UC hd;rfl
end AI
namespace AI
open Go Go.RowKit
inductive AX where
 |normal
 |exit (id:Nat)
 |ret
 |pan (v:AV)
inductive CR where
 |ret (v:AV)
 |pan (v:AV)
def CI(ops:Array Oper)(fr:List AV)(o:Oper):Bool:=match o.guard with
 |none=>true
 |some (j,want)=>match (ops[j]?).bind (·.dst) with
  |some d=>match fr[d]? with|some (.sc (.bool b))=>b == want|_=>false
  |none=>false
def GU(id:Nat):AX->AX
 |.exit T5=>if T5=id then .normal else .exit T5
 |e=>e
def UD(P:Program)(s:AS)(fr:List AV):ResultVar->Option AV
 |.tmp t=>some (fr.getD t (.sc undef))
 |.cell t ty=>J9 P s ty (fr.getD t (.sc undef))
def PQ(P:Program)(s:AS)(fr:List AV):List ResultVar->Option (List AV)
 |[]=>some []
 |r::rs=>match UD P s fr r,PQ P s fr rs with|some a,some as=>some (a::as)|_,_=>none
def Gy(P:Program)(s:AS)(fn:Func)(fr:List AV):Option AV:=match PQ P s fr fn.results.toList with|some [a]=>some a|some as=>some (.Gx as)|none=>none
inductive Jd where
 |code (c:Code) (fr:List AV) (s:AS) (e:AX) (BM:List AV) (s':AS)
 |loop (c:Code) (fr:List AV) (s:AS) (e:AX) (BM:List AV) (s':AS)
 |ops (ops:Array Oper) (l:List Nat) (fr:List AV) (s:AS) (e:AX) (BM:List AV) (s':AS)
 |op (ops:Array Oper) (o:Oper) (fr:List AV) (s:AS) (r:CR) (s':AS)
 |call (f:FuncId) (args:List AV) (s:AS) (r:CR) (s':AS)
def Cn(ops:Array Oper)(i:Nat):Option Tmp:=(ops[i]?).bind (·.dst)
def iQ(ops:Array Oper)(i:Nat):Prop:=∃o,ops[i]?=some o/\calm o.op=false
def Win(ops:Array Oper)(i k:Nat):Prop:=(∀l,iQ ops l->VB (I7 ops.toList []) i l=true->l < k)/\(∀l,iQ ops l->VB (I7 ops.toList []) l i=true->k<=l)
abbrev YY:=FuncId->List AV->AS->CR->AS->Prop
abbrev VM:=FuncId->List AV->Option (FuncId×List AV×(CR->Option CR))
def aLY(P:Program)(G:AN)(t tx:TypeId)(a b:AV)(s:AS)(v:AV)(s':AS):Prop:=∀(c:Cx)(w:World)(va vb:Value)(ty:TypeId),St G c w s->Rp c w a va->Rp c w b vb ->
 ∃u w' c',(bkX #[t,tx] ty #[va,vb]).run P w=.ok u w'/\Ext c w c' w'/\St G c' w' s'/\Rp c' w' v u
def aMB(G:AN)(c:Cx)(w:World)(r:CR)(s':AS)(e:Ending)(w':World):Prop :=
 ∃c',Ext c w c' w'/\St G c' w' s'/\match r with|.ret v=>∃u,e=.returned u/\Rp c' w' v u|.pan v=>∃u,e=.panicked [{ v:=u,recovered:=false }]/\Rp c' w' v u
def Wa(G:AN)(c:Cx)(w:World)(e:AX)(BM:List AV)(s':AS)(e':Exit)(a':Act)(w':World):Prop :=
 ∃c',Ext c w c' w'/\St G c' w' s'/\a'.defers=[]/\match e with|.normal=>e'=.normal/\Cw c' w' BM a'.tmps.toList|.exit id=>e'=.exit id/\Cw c' w' BM a'.tmps.toList|.ret=>e'=.ret/\Cw c' w' BM a'.tmps.toList|.pan v=>∃u,e'=.panic [{ v:=u,recovered:=false }]/\Rp c' w' v u
def Wa.ext{G:AN}{c c1:Cx}{w w1:World}{e:AX}{BM:List AV}{s':AS}{e':Exit}{a':Act}{w':World}(x:Ext c w c1 w1)(h:Wa G c1 w1 e BM s' e' a' w'):Wa G c w e BM s' e' a' w':=by obtain⟨c',h1,h2⟩:=h;exact⟨c',x.trans h1,h2⟩
def OC(P:Program)(ops:Array Oper)(o:Oper)(K:Act->World->Prop)(Q:Exit->Act->World->Prop)(a:Act)(w:World):Prop :=
 if bkG o (yielded ops a.tmps) then o.wp P a w K Q else K (a.put o.dst undef) w
def Sound(P:Program)(G:AN):Jd->Prop
 |.code c fr s e BM s'=>∀(cx:Cx)(w:World)(a:Act)(Q:Exit->Act->World->Prop),St G cx w s->Cw cx w fr a.tmps.toList->a.defers=[]->(∀e' a' w',Wa G cx w e BM s' e' a' w'->Q e' a' w')->c.wp P Q a w
 |.loop c fr s e BM s'=>∃n,∀(cx:Cx)(w:World)(a:Act)(Q:Exit->Act->World->Prop),St G cx w s->Cw cx w fr a.tmps.toList->a.defers=[]->(∀e' a' w',Wa G cx w e BM s' e' a' w'->Q e' a' w')->Code.rounds P c Q n a w
 |.ops ops l fr s e BM s'=>∀(cx:Cx)(w:World)(a:Act)(Q:Exit->Act->World->Prop),St G cx w s->Cw cx w fr a.tmps.toList->a.defers=[]->(∀e' a' w',Wa G cx w e BM s' e' a' w'->Q e' a' w')->wpOps P ops Q l a w
 |.op ops o fr s r s'=>∀(cx:Cx)(w:World)(a:Act)(K:Act->World->Prop)(Q:Exit->Act->World->Prop),St G cx w s->(∀x∈o.op.operands,lP G cx w fr a.eval x)->CI ops fr o=bkG o (yielded ops a.tmps) ->
  (match r with|.ret v=>∀u w' c',Ext cx w c' w'->St G c' w' s'->Rp c' w' v u->K (a.put o.dst u) w'|.pan v=>∀u w' c',Ext cx w c' w'->St G c' w' s'->Rp c' w' v u->Q (.panic [{ v:=u,recovered:=false }]) a w')->OC P ops o K Q a w
 |.call f args s r s'=>∀(cx:Cx)(w:World)(vs:List Value),St G cx w s->Cw cx w args vs->Calls P f vs.toArray w (aMB G cx w r s')
inductive J(P:Program)(G:AN)(X:YY)(H:VM):Jd->Prop where
 |skip {fr:List AV}{s:AS}:J P G X H (.code .skip fr s .normal fr s)
 |exit {id:Nat}{fr:List AV}{s:AS}:J P G X H (.code (.exit id) fr s (.exit id) fr s)
 |ret {fr:List AV}{s:AS}:J P G X H (.code .ret fr s .ret fr s)
 |seq {x y:Code}{fr YV BM:List AV}{s s1 s':AS}{e:AX} (h1:J P G X H (.code x fr s .normal YV s1)) (h2:J P G X H (.code y YV s1 e BM s')):J P G X H (.code (.seq x y) fr s e BM s')
 |aeM {x y:Code}{fr BM:List AV}{s s':AS}{e:AX} (h1:J P G X H (.code x fr s e BM s')) (he:e≠.normal):J P G X H (.code (.seq x y) fr s e BM s')
 |cond {q:Operand}{x y:Code}{t:Bool}{fr BM:List AV}{s s':AS}{e:AX} (hq:AY G fr q=some (.sc (.bool t))) (h:J P G X H (.code (if t then x else y) fr s e BM s')):J P G X H (.code (.cond q x y) fr s e BM s')
 |block {id:Nat}{c:Code}{fr BM:List AV}{s s':AS}{e:AX} (h:J P G X H (.code c fr s e BM s')):J P G X H (.code (.block id c) fr s (GU id e) BM s')
 |loop {c:Code}{fr BM:List AV}{s s':AS}{e:AX} (h:J P G X H (.loop c fr s e BM s')):J P G X H (.code (.loop c) fr s e BM s')
 |atA {c:Code}{fr YV BM:List AV}{s s1 s':AS}{e:AX} (h1:J P G X H (.code c fr s .normal YV s1)) (h2:J P G X H (.loop c YV s1 e BM s')):J P G X H (.loop c fr s e BM s')
 |iP {c:Code}{fr BM:List AV}{s s':AS}{e:AX} (h1:J P G X H (.code c fr s e BM s')) (he:e≠.normal):J P G X H (.loop c fr s e BM s')
 |region {id:Nat}{ops:Array Oper}{fr BM:List AV}{s s':AS}{e:AX} (h:J P G X H (.ops ops (bjD ops.size) fr s e BM s')):J P G X H (.code (.region id ops false) fr s e BM s')
 |auQ {ops:Array Oper}{fr:List AV}{s:AS}:J P G X H (.ops ops [] fr s .normal fr s)
 |ahJ {ops:Array Oper}{i:Nat}{l:List Nat}{o:Oper}{v:AV}{fr BM:List AV}{s s1 s':AS}{e:AX} (ho:ops[i]?=some o) (h:J P G X H (.op ops o fr s (.ret v) s1)) (t:J P G X H (.ops ops l (JB fr o.dst v) s1 e BM s')):J P G X H (.ops ops (i::l) fr s e BM s')
 |auR {ops:Array Oper}{i:Nat}{l:List Nat}{o:Oper}{v:AV}{fr:List AV}{s s1:AS} (ho:ops[i]?=some o) (h:J P G X H (.op ops o fr s (.pan v) s1)):J P G X H (.ops ops (i::l) fr s (.pan v) fr s1)
 |Qe {ops:Array Oper}{o:Oper}{fr:List AV}{s s':AS}{v:AV} (hw:CI ops fr o=true) (h:SR P G fr s o=some (.val v s')):J P G X H (.op ops o fr s (.ret v) s')
 |adP {ops:Array Oper}{o:Oper}{fr:List AV}{s s':AS}{v v2:AV} (hq:quiet o.op=false) (h:J P G X H (.op ops o fr s (.ret v) s')) (hv:∀cx w u,Rp cx w v u->Rp cx w v2 u):J P G X H (.op ops o fr s (.ret v2) s')
 |sT {ops:Array Oper}{o:Oper}{fr:List AV}{s s1 s2:AS}{v:AV} (hq:quiet o.op=false) (h:J P G X H (.op ops o fr s (.ret v) s1)) (hs:∀cx w,St G cx w s1->St G cx w s2):J P G X H (.op ops o fr s (.ret v) s2)
 |auP {ops:Array Oper}{o:Oper}{fr:List AV}{s s':AS}{cl:Call}{x y:Operand}{t tx:TypeId}{a b v:AV} (hw:CI ops fr o=true) (ho:o.op=.call cl) (IX:cl.callee=.builtin .append) (hx:cl.args.toList=[x,y]) (ht:cl.argTypes.toList=[t,tx]) (ha:AY G fr x=some a) (hb:AY G fr y=some b) (h:aLY P G t tx a b s v s'):J P G X H (.op ops o fr s (.ret v) s')
 |adO {ops:Array Oper}{o:Oper}{fr:List AV}{s:AS} (hw:CI ops fr o=false):J P G X H (.op ops o fr s (.ret (.sc undef)) s)
 |U4 {ops:Array Oper}{o:Oper}{fr:List AV}{s s':AS}{f:FuncId}{args:List AV}{r:CR} (hw:CI ops fr o=true) (h:SR P G fr s o=some (.ent f args)) (hc:J P G X H (.call f args s r s')):J P G X H (.op ops o fr s r s')
 |aJU {ops:Array Oper}{o:Oper}{fr:List AV}{s:AS}{v:AV} (hw:CI ops fr o=true) (h:SR P G fr s o=some (.pan v)):J P G X H (.op ops o fr s (.pan v) s)
 | draw {id:Nat}{ops:Array Oper}{f0:List AV}{s0:AS} (rs:List Ay) (vals:Nat->AV) (Pd:Nat->AS) (h0:Pd 0=s0.hold rs) (IQ:Oh ops=true)
     (hl:∀i o,ops[i]?=some o->calm o.op=false->J P G X H (.op ops o (Js f0 (Cn ops) vals (λ_=>true) i) (Pd i) (.ret (vals i)) (Pd (i+1))))
     (hq:∀i o,ops[i]?=some o->quiet o.op=true->Pd (i+1)=Pd i/\((CI ops (Js f0 (Cn ops) vals (λ_=>true) i) o=false/\vals i=.sc undef)\/(CI ops (Js f0 (Cn ops) vals (λ_=>true) i) o=true/\∀k,k<=ops.size->Win ops i k->SR P G (Js f0 (Cn ops) vals (λ_=>true) i) (Pd k) o=some (.val (vals i) (Pd k)))))
     (ha:∀i o e,ops[i]?=some o->o.op=.alloc e->Pd (i+1)=Pd i/\((CI ops (Js f0 (Cn ops) vals (λ_=>true) i) o=false/\vals i=.sc undef)\/(CI ops (Js f0 (Cn ops) vals (λ_=>true) i) o=true/\∃z,N6 P e=some z/\rk ops i < rs.length/\vals i=.ptr (s0.nx+rk ops i) 0/\∀k,k<=ops.size->Win ops i k->(Pd k).get (s0.nx+rk ops i)=some (.cells (cellsOf z))))):
     J P G X H (.code (.region id ops true) f0 s0 .normal (Js f0 (Cn ops) vals (λ_=>true) ops.size) (Pd ops.size))
 |body {f:FuncId}{fn:Func}{c:Code}{args BM:List AV}{s s' s2:AS}{e:AX}{v:AV} (hf:P.funcs[f]?=some fn) (hb:fn.body=some c) (h:J P G X H (.code c (args++bjS (fn.ntmps - args.length) (.sc undef)) s e BM s')) (he:e=.normal\/e=.ret) (hr:Gy P s' fn BM=some v) (hk:s2=s'.cut s.nx\/s2=s'):J P G X H (.call f args s (.ret v) s2)
 |aHY {f:FuncId}{fn:Func}{c:Code}{args BM:List AV}{s s':AS}{v:AV} (hf:P.funcs[f]?=some fn) (hb:fn.body=some c) (h:J P G X H (.code c (args++bjS (fn.ntmps - args.length) (.sc undef)) s (.pan v) BM s')):J P G X H (.call f args s (.pan v) (s'.cut s.nx))
 |ext {f:FuncId}{args:List AV}{s s':AS}{r:CR} (h:X f args s r s'):J P G X H (.call f args s r s')
 |ayP {c:Code}{fr fr2 BM:List AV}{s s2 s':AS}{e:AX} (hw:∀cx w vs,St G cx w s->Cw cx w fr vs->∃cx2,Ext cx w cx2 w/\St G cx2 w s2/\Cw cx2 w fr2 vs) (h:J P G X H (.code c fr2 s2 e BM s')):J P G X H (.code c fr s e BM s')
 |aKO {c:Code}{fr fr2 BM:List AV}{s s2 s':AS}{e:AX} (hw:∀cx w vs,St G cx w s->Cw cx w fr vs->∃cx2,Ext cx w cx2 w/\St G cx2 w s2/\Cw cx2 w fr2 vs) (h:J P G X H (.loop c fr2 s2 e BM s')):J P G X H (.loop c fr s e BM s')
 |scope {c:Code}{fr fr2 BM:List AV}{s s2 s':AS}{e:AX} (h:J P G X H (.code c fr s e BM s')) (he:∀v,e≠.pan v) (hs:∀cx w c' w' vs,Ext cx w c' w'->St G cx w s->St G c' w' s'->Cw c' w' BM vs->∃c2,Ext cx w c2 w'/\St G c2 w' s2/\Cw c2 w' fr2 vs):J P G X H (.code c fr s e fr2 s2)
 |aOM {f g:FuncId}{args gJ:List AV}{k:CR->Option CR}{s s':AS}{r r':CR} (hh:H f args=some (g,gJ,k)) (h:J P G X H (.call g gJ s r s')) (hk:k r=some r'):J P G X H (.call f args s r' s')
 |sem {c:Code}{fr BM:List AV}{s s':AS}{e:AX} (h:P.follows .mixedOrders=true->Sound P G (.code c fr s e BM s')):J P G X H (.code c fr s e BM s')
def PS{ops:Array Oper}{fr:List AV}{o:Oper}{c:Cx}{w:World}{tmps:Array Value}(h:∀j want,o.guard=some (j,want)->∀d,(ops[j]?).bind (·.dst)=some d->∃M,Cw c w M tmps.toList/\M[d]?=fr[d]?):CI ops fr o=bkG o (yielded ops tmps):=by
 unfold CI bkG;cases hg:o.guard with
 |none=>rfl
 |some p=>
  obtain⟨j,want⟩:=p;simp only;unfold yielded;cases hd:(ops[j]?).bind (·.dst) with
  |none=>simp
  |some d=>
   obtain⟨M,hM,he⟩:=h j want hg d hd;simp only[Uu];rw[<- he];cases hm:M[d]? with
   |none=>
    have hl:=hM.len;have h1:=bnA.1 hm;have h2:tmps[d]?=none:=bmM (by rw[<- biR];omega);simp[h2]
   |some b=>
    obtain⟨u,hu,hr⟩:=hM.get hm;rw[biO] at hu;rw[hu];cases hr with
    |sc hs=>cases u<;>simp
    |any hs=>cases u<;>first | (simp[cV] at hs;done) | simp
    |_=>simp
def amJ(tmps:Array Value):ResultVar->Sem Value
 |.tmp t=>pure (tmps.getD t undef)
 |.cell a t=>do loadVar t (<- asAddr (tmps.getD a undef))
def Xk(fn:Func)(tmps:Array Value):results fn tmps=(do
 let vs <- fn.results.mapM (amJ tmps)
 pure (if h:vs.size=1 then vs[0] else .tuple vs)):=by
 unfold results;congr 2
def vM{P:Program}{G:AN}{c:Cx}{w:World}{s:AS}{fr:List AV}{tmps:Array Value}(hs:St G c w s)(hf:Cw c w fr tmps.toList){r:ResultVar}{v:AV}(h:UD P s fr r=some v) :
   ∃u,(amJ tmps r).run P w=.ok u w/\Rp c w v u:=by
 have ht:∀t,Rp c w (fr.getD t (.sc undef)) (tmps.getD t undef):=λt=>Fh (G:=G) (s:=s) (a:=⟨tmps,[]⟩) (x:=.tmp t) hs hf rfl;cases r with
 |tmp t=>simp only[UD,atS] at h;subst h;exact⟨_,rfl,ht t⟩
 |cell t ty=>
  obtain⟨u,h1,h2⟩:=vI hs h (ht t);refine⟨u,?_,h2⟩;have hr:=ht t;simp only[bnN,biG] at h1;simp only[amJ,biG];generalize tmps.getD t undef=x at hr h1;simp only[UD] at h;unfold J9 at h;split at h;rename_i Sb;rw[Sb] at hr;cases hr;simpa[asAddr,bkV] using h1
  rename_i Sb;rw[Sb] at hr;cases hr;simpa[asAddr,bkV] using h1
  cases h
def vN{P:Program}{G:AN}{c:Cx}{w:World}{s:AS}{fr:List AV}{tmps:Array Value}(hs:St G c w s)(hf:Cw c w fr tmps.toList)(rs:List ResultVar){vs:List AV}(h:PQ P s fr rs=some vs) :
   ∃us,(rs.mapM (amJ tmps)).run P w=.ok us w/\Cw c w vs us:=by
 induction rs generalizing vs with
 |nil=>simp[PQ] at h;subst h;exact⟨[],rfl,.nil⟩
 |cons r rs ih=>
  simp only[PQ] at h;split at h;rename_i a as h1 h2;cases h;obtain⟨u,hu,hr⟩:=vM hs hf h1;obtain⟨us,hus,hrs⟩:=ih h2;refine⟨u::us,?_,.cons hr hrs⟩;rw[bsM];simp only[biG,hu,biD,hus,bjJ];cases h
def Q4{P:Program}{G:AN}{c:Cx}{w:World}{s:AS}{fr:List AV}{tmps:Array Value}{fn:Func}{v:AV}(hs:St G c w s)(hf:Cw c w fr tmps.toList)(h:Gy P s fn fr=some v):∃u,(results fn tmps).run P w=.ok u w/\Rp c w v u:=by
 unfold Gy at h;cases hl:PQ P s fr fn.results.toList with
 |none=>rw[hl] at h;cases h
 |some as=>
  rw[hl] at h;obtain⟨us,hus,hrs⟩:=vN hs hf _ hl;have hlen:=hrs.len
  have Ud:(results fn tmps).run P w=.ok (if h:us.toArray.size=1 then us.toArray[0] else .tuple us.toArray) w:=by rw[Xk,bpE];simp only[biG,Sem.run_map,hus,biD,bjJ]
  rw[Ud];split at h;rename_i a Sb;cases Sb;cases h;cases hrs with|cons h1 t=>cases t;exact⟨_,rfl,h1⟩
  rename_i as' hne Sb;cases Sb;cases h
  have:¬us.toArray.size=1:=by intro h1;simp at h1;obtain⟨a,ha⟩:=List.length_eq_one_iff.1 (hlen.symm.trans h1);exact hne a ha
  rw[dif_neg this];exact⟨_,rfl,.Gx hrs⟩;rename_i Sb;cases Sb
end AI
namespace AI
open Go Go.RowKit
def vW(L:Nat->Bool):Nat->Nat
 |0=>0
 |n+1=>vW L n+if L n then 0 else 1
def vX{L:Nat->Bool}:∀(n:Nat),vW L n=0->∀i,i < n->L i=true:=by
 intro n
 induction n with
 |zero=>intro _ i hi;omega
 |succ n ih=>
  intro h i hi;simp only[vW] at h;by_cases hn:i=n;subst hn;by_cases hL:L i=true;exact hL;simp[hL] at h;exact ih (by omega) i (by omega)
def afU{L M:Nat->Bool}{i:Nat}(h0:L i=false)(h1:M i=true)(hne:∀j,j≠i->M j=L j):∀(n:Nat),(i < n->vW L n=vW M n+1)/\(n<=i->vW L n=vW M n):=by
 intro n
 induction n with
 |zero=>exact⟨λh=>by omega,λ_=>rfl⟩
 |succ n ih=>
  refine⟨λh=>?_,λh=>?_⟩;simp only[vW];by_cases hn:n=i;subst hn;rw[ih.2 (aWP _),h0,h1];simp;rw[ih.1 (by omega),hne n hn];omega;simp only[vW];rw[ih.2 (by omega),hne n (by omega)]
def aeQ{ops:Array Oper}{Pd:Nat->AS}(hq:∀i o,ops[i]?=some o->calm o.op=true->Pd (i+1)=Pd i){x:Nat}:∀(y:Nat),x<=y->y<=ops.size->(∀m,x<=m->m < y->¬iQ ops m)->Pd x=Pd y:=by
 intro y
 induction y with
 | zero=>intro h _ _;have:x=0:=by omega
         subst this;rfl
 |succ y ih=>
  intro h hn hl;by_cases e:x=y+1;subst e;rfl;rw[ih (by omega) (by omega) (λm h1 h2=>hl m h1 (by omega))];have ho:ops[y]?=some (ops[y]'(by omega)):=bkB (by omega);have hy:=hl y (by omega) (by omega);refine(hq y _ ho ?_).symm;cases hqq:calm (ops[y]'(by omega)).op with|true=>rfl|false=>exact absurd ⟨_,ho,hqq⟩ hy
def mem_ready{ops:Array Oper}{L:Array Bool}(hsz:L.size=ops.size){i:Nat}(h:i∈bnR .any ops L):∃o,ops[i]?=some o/\L.getD i false=false/\Met (λj=>L.getD j false) o/\i < ops.size:=by
 unfold bnR at h;rw[bqK,bkI,bhB] at h;obtain⟨h1,h2,h3⟩:=h;have ho:ops[i]?=some (ops[i]'h1):=bkB h1;refine⟨_,ho,?_,λe he hb=>?_,h1⟩;have:i < L.size:=by omega
 simpa[this] using h2
 rw[ho] at h3;simp only[bhK,bmH] at h3;rw[blE] at h3;have:=h3 e he;rw[hb] at this;simpa using this
def zF{ops:Array Oper}{L:Array Bool}(hsz:L.size=ops.size){i:Nat}{o:Oper}(ho:ops[i]?=some o)(hL:L.getD i false=false)(hm:Met (λj=>L.getD j false) o):i∈bnR .any ops L:=by
 have h1:=(aPB.1 ho).1;unfold bnR;rw[bqK,bkI,bhB];refine⟨h1,?_,?_⟩;have:i < L.size:=by omega
 simpa[this] using hL
 rw[ho];simp only[bhK,bmH];rw[blE];intro e he;by_cases hb:bnQ .any e=true;have:=hm e he hb;rw[hb];simpa using this
 simp[hb]
section
variable {P:Program}{G:AN}{ops:Array Oper}{f0:List AV}{vals:Nat->AV}{Pd:Nat->AS}
structure Inv(G:AN)(ops:Array Oper)(f0:List AV)(vals:Nat->AV)(Pd:Nat->AS)(cx0:Cx)(w0:World)(nh:Nat)(L:Array Bool)(a:Act)(w:World):Prop where
 size:L.size=ops.size
 closed:PO ops.toList (λj=>L.getD j false)
 st:∃c k,k<=ops.size/\(∀l,iQ ops l->(L.getD l false=true↔l < k))/\Ext cx0 w0 c w/\St G c w (Pd k)/\Cw c w (Js f0 (Cn ops) vals (λj=>L.getD j false) ops.size) a.tmps.toList /\
  ∀j y,ops[j]?=some y->BX y.op=true->L.getD j false=false->rk ops j < nh->c.Ce[cx0.Ce.length+rk ops j]?=some none
 defers:a.defers=[]
def looks{x y:Oper}{t:Nat}(hx:x.dst=some t)(hy:t∈y.looksAt ops):Sr ops x y=true:=by simp[Sr,hx,hy]
def aPW{x y:Oper}{t:Nat}(hx:t∈x.looksAt ops)(hy:y.dst=some t):Sr ops x y=true:=by simp[Sr,hx,hy]
def baT{x y:Oper}{t:Nat}(hx:x.dst=some t)(hy:y.dst=some t):Sr ops x y=true:=by simp[Sr,hx,hy]
def agW{x y:Oper}(hx:calm x.op=false)(hy:calm y.op=false):Sr ops x y=true:=by simp[Sr,hx,hy]
def Cl{i:Nat}{o:Oper}(h:ops[i]?=some o):ops.toList[i]?=some o:=by rw[biO];exact h
def Y2{L:Nat->Bool}(IQ:Oh ops=true)(hc:PO ops.toList L){i j:Nat}{x y:Oper}(hx:ops[i]?=some x)(hy:ops[j]?=some y)(hm:Met L y)(hlt:i < j)(IX:Sr ops x y=true):L i=true :=
 fX hc (Cl hy) hm (oJ IQ hx hy hlt IX)
def S1{L:Nat->Bool}(IQ:Oh ops=true)(hc:PO ops.toList L){i j:Nat}{x y:Oper}(hx:ops[i]?=some x)(hy:ops[j]?=some y)(hL:L i=false)(hlt:i < j)(IX:Sr ops x y=true):L j=false:=by
 cases h:L j with
 |false=>rfl
 |true=>
  have:=fX hc (Cl hy) (hc j y (Cl hy) h) (oJ IQ hx hy hlt IX);rw[hL] at this;cases this
def acG{i t:Nat}(h:Cn ops i=some t):∃o,ops[i]?=some o/\o.dst=some t:=by unfold Cn at h;cases ho:ops[i]? with|none=>rw[ho] at h;cases h|some o=>rw[ho] at h;exact⟨o,rfl,by simpa using h⟩
def VD{L:Nat->Bool}(IQ:Oh ops=true)(hc:PO ops.toList L){i:Nat}{o:Oper}(ho:ops[i]?=some o)(hL:L i=false)(hm:Met L o){t:Nat}(ht:t∈o.looksAt ops) :
   (Js f0 (Cn ops) vals L ops.size)[t]?=(Js f0 (Cn ops) vals (λ_=>true) i)[t]?:=by
 have hi:=(aPB.1 ho).1;rw[agD (j:=i) ops.size (by omega)];refine gH i (λj hj hd=>?_);obtain⟨x,hx,hxd⟩:=acG hd;exact Y2 IQ hc hx ho hm hj (looks hxd ht);intro j hj _ hd;by_cases e:j=i;subst e;exact hL;obtain⟨y,hy,hyd⟩:=acG hd;exact S1 IQ hc ho hy hL (by omega) (aPW ht hyd)
def agE{L M:Nat->Bool}(IQ:Oh ops=true)(hc:PO ops.toList L){i:Nat}{o:Oper}(ho:ops[i]?=some o)(hL:L i=false)(hM:M i=true)(hne:∀j,j≠i->M j=L j) :
   Js f0 (Cn ops) vals M ops.size=JB (Js f0 (Cn ops) vals L ops.size) o.dst (vals i):=by
 have hi:=(aPB.1 ho).1;have hdi:Cn ops i=o.dst:=by unfold Cn;rw[ho];rfl
 apply blO;intro t;by_cases hd:o.dst=some t;rw[agD (j:=i+1) ops.size (by omega)];simp only[Js,hM,if_true,hdi,hd];rw[Q1,Q1,cZ,cZ];intro j hj _ hdj;obtain⟨y,hy,hyd⟩:=acG hdj;rw[hne j (by omega)];exact S1 IQ hc ho hy hL (by omega) (baT hd hyd);rw[UC hd];refine gH ops.size (λj _ hdj=>hne j (λe=>hd ?_));rw[<- hdi,<- e];exact hdj
def Ext.aNU{c:Cx}{w:World}{c':Cx}{w':World}(h:Ext c w c' w'){id:Nat}{y:Option Nat}(e:c.Ce[id]?=some y):c'.Ce[id]?=some y:=by obtain⟨t,ht⟩:=h.Ce;rw[<- ht,bhD (aBC.1 e).1];exact e
def aqB{nh:Nat}(IQ:Oh ops=true)
   (hl:∀i o,ops[i]?=some o->calm o.op=false->Sound P G (.op ops o (Js f0 (Cn ops) vals (λ_=>true) i) (Pd i) (.ret (vals i)) (Pd (i+1))))
   (hq:∀i o,ops[i]?=some o->quiet o.op=true->Pd (i+1)=Pd i/\((CI ops (Js f0 (Cn ops) vals (λ_=>true) i) o=false/\vals i=.sc undef)\/(CI ops (Js f0 (Cn ops) vals (λ_=>true) i) o=true/\∀k,k<=ops.size->Win ops i k->SR P G (Js f0 (Cn ops) vals (λ_=>true) i) (Pd k) o=some (.val (vals i) (Pd k)))))
   (cx0:Cx) (w0:World)
   (ha:∀i o e,ops[i]?=some o->o.op=.alloc e->Pd (i+1)=Pd i/\((CI ops (Js f0 (Cn ops) vals (λ_=>true) i) o=false/\vals i=.sc undef)\/(CI ops (Js f0 (Cn ops) vals (λ_=>true) i) o=true/\∃z,N6 P e=some z/\rk ops i < nh/\vals i=.ptr (cx0.Ce.length+rk ops i) 0/\∀k,k<=ops.size->Win ops i k->(Pd k).get (cx0.Ce.length+rk ops i)=some (.cells (cellsOf z)))))
   (Q:Exit->Act->World->Prop) (hQ:∀e' a' w',Wa G cx0 w0 .normal (Js f0 (Cn ops) vals (λ_=>true) ops.size) (Pd ops.size) e' a' w'->Q e' a' w'):
   ∀(fuel:Nat)(L:Array Bool)(a:Act)(w:World),Inv G ops f0 vals Pd cx0 w0 nh L a w->vW (λj=>L.getD j false) ops.size=fuel->wpAny P .any ops Q fuel L a w:=by
 have hqs:∀i o,ops[i]?=some o->calm o.op=true->Pd (i+1)=Pd i:=λi o h1 h2=>by
  rcases fS h2 with h2 | ⟨e,h2⟩
  exact(hq i o h1 h2).1;exact(ha i o e h1 h2).1
 have fin:∀(L:Array Bool)(a:Act)(w:World),Inv G ops f0 vals Pd cx0 w0 nh L a w->(∀i,i < ops.size->L.getD i false=true)->Q .normal a w:=by
  intro L a w hI IN;obtain⟨c,k,hk,dA,hx,Dc,Ob,_⟩:=hI.st;have bdS:Pd k=Pd ops.size:=aeQ hqs ops.size hk (aWP _) (λm h1 h2 hm=>by have:=(dA m hm).1 (IN m h2);omega);rw[bdS] at Dc;refine hQ _ _ _ ⟨c,hx,Dc,hI.defers,rfl,?_⟩
  have:Js f0 (Cn ops) vals (λj=>L.getD j false) ops.size=Js f0 (Cn ops) vals (λ_=>true) ops.size:=by apply blO;intro t;exact gH ops.size (λi hi _=>IN i hi)
  rw[<- this];exact Ob
 intro fuel
 induction fuel with
 |zero=>
  intro L a w hI hc;have IN:=vX ops.size hc;refine⟨?_,fin L a w hI IN⟩;apply List.eq_nil_iff_forall_not_mem.2;intro i hi;obtain⟨o,ho,h1,_,hlt⟩:=mem_ready hI.size hi;have:=IN i hlt;rw[h1] at this;cases this
 |succ fuel ih=>
  intro L a w hI bcM;refine⟨λrM=>fin L a w hI (λi=>?_),λi hi=>?_⟩
  ·induction i using Nat.strongRecOn with
   |_ i ihi=>
    intro hlt;cases vA:L.getD i false with
    |true=>rfl
    |false=>
     exfalso;have ho:ops[i]?=some (ops[i]'hlt):=bkB hlt
     have:=zF hI.size ho vA (λe he hb=>by
      have h1:=yH IQ ho he hb;exact ihi e.on h1 (by omega))
     rw[rM] at this;cases this
  ·obtain⟨o,ho,vA,hO,hlt⟩:=mem_ready hI.size hi
   obtain⟨c,k,hk,dA,hx,Dc,Ob,acS⟩:=hI.st
   have hMi:(L.setIfInBounds i true).getD i false=true:=by
    have:i < L.size:=by rw[hI.size];exact hlt
    simp[this]
   have hMn:∀j,j≠i->(L.setIfInBounds i true).getD j false=L.getD j false:=by intro j hj;simp only[bjL];rw[bmE (λe=>hj e.symm)]
   have hle:∀j,L.getD j false=true->(L.setIfInBounds i true).getD j false=true:=by intro j hj;by_cases e:j=i;subst e;exact hMi;rw[hMn j e];exact hj
   have gW:PO ops.toList (λj=>(L.setIfInBounds i true).getD j false):=by
    intro j y hy hj e he hb;by_cases ej:j=i;subst ej;rw[Cl ho] at hy;cases hy;exact hle _ (hO e he hb);have hj2:L.getD j false=true:=by rw[<- hMn j ej];exact hj
    exact hle _ (hI.closed j y hy hj2 e he hb)
   have arN:vW (λj=>(L.setIfInBounds i true).getD j false) ops.size=fuel:=by have:=(afU (L:=λj=>L.getD j false) (M:=λj=>(L.setIfInBounds i true).getD j false) vA hMi hMn ops.size).1 hlt;omega
   have lW:=agE (f0:=f0) (vals:=vals) (L:=λj=>L.getD j false) (M:=λj=>(L.setIfInBounds i true).getD j false) IQ hI.closed ho vA hMi hMn
   have aKH:∀(k':Nat)(u:Value)(w':World)(c':Cx),k'<=ops.size->(∀l,iQ ops l->((L.setIfInBounds i true).getD l false=true↔l < k'))->Ext cx0 w0 c' w'->Mon c w c' w' ->
    (∀j y,ops[j]?=some y->BX y.op=true->(L.setIfInBounds i true).getD j false=false->rk ops j < nh->c'.Ce[cx0.Ce.length+rk ops j]?=some none)->St G c' w' (Pd k')->Rp c' w' (vals i) u->wpAny P .any ops Q fuel (L.setIfInBounds i true) (a.put o.dst u) w':=by
    intro k' u w' c' EM rL Ze hm' hh' OO hu;refine ih _ _ _ ⟨by simp[hI.size],gW,⟨c',k',EM,rL,Ze,OO,?_,hh'⟩,by cases o.dst<;>exact hI.defers⟩ arN
    rw[lW];exact Q3 (Ob.DL hm') hu
   have step:∀(k':Nat)(u:Value)(w':World)(c':Cx),k'<=ops.size->(∀l,iQ ops l->((L.setIfInBounds i true).getD l false=true↔l < k'))->Ext c w c' w'->St G c' w' (Pd k')->Rp c' w' (vals i) u->wpAny P .any ops Q fuel (L.setIfInBounds i true) (a.put o.dst u) w':=by
    intro k' u w' c' EM rL Ze OO hu;refine aKH k' u w' c' EM rL (hx.trans Ze) Ze.mon (λj y hy rV hj hjn=>?_) OO hu;have hji:j≠i:=λe=>by subst e;rw[hMi] at hj;cases hj
    rw[hMn j hji] at hj;exact Ze.aNU (acS j y hy rV hj hjn)
   have xC:∀x∈o.op.operands,lP G c w (Js f0 (Cn ops) vals (λ_=>true) i) a.eval x:=by
    intro x hxo v hv;cases x with
    |tmp t=>
     have arT:t∈o.looksAt ops:=by unfold bqF;rw[biI];left;rw[List.mem_filterMap];exact⟨.tmp t,bkZ.2 hxo,rfl⟩
     have he:=VD (f0:=f0) (vals:=vals) IQ hI.closed ho vA hO arT
     have:AY G (Js f0 (Cn ops) vals (λj=>L.getD j false) ops.size) (.tmp t)=some v:=by rw[<- hv];simp only[AY,bjP,he]
     exact Fh Dc Ob this
    |const z=>exact Fh (fr:=Js f0 (Cn ops) vals (λj=>L.getD j false) ops.size) Dc Ob hv
    |global g=>exact Fh (fr:=Js f0 (Cn ops) vals (λj=>L.getD j false) ops.size) Dc Ob hv
    |func f=>exact Fh (fr:=Js f0 (Cn ops) vals (λj=>L.getD j false) ops.size) Dc Ob hv
   have Z9:CI ops (Js f0 (Cn ops) vals (λ_=>true) i) o=bkG o (yielded ops a.tmps):=by refine PS (c:=c) (w:=w) (λj want hg d hd=>⟨_,Ob,?_⟩);refine VD IQ hI.closed ho vA hO ?_;unfold bqF;rw[biI];right;rw[hg];simp[hd]
   have qY:OC P ops o (wpAny P .any ops Q fuel (L.setIfInBounds i true)) Q a w->wpOp P ops Q i (wpAny P .any ops Q fuel (L.setIfInBounds i true)) a w:=by intro h;unfold wpOp;rw[ho];unfold OC at h;simp only;split;rename_i hw;rw[if_pos hw] at h;exact .inl h;rename_i hw;rw[if_neg hw] at h;exact h
   refine qY ?_;cases hqo:calm o.op with
   |false=>
    have hki:Pd k=Pd i:=by
     rcases Nat.le_total k i with aOK | aOK
     exact aeQ hqs i aOK (by omega) (λm h1 h2 hm=>by
      obtain⟨y,hy,hyq⟩:=hm;have:=Y2 IQ hI.closed hy ho hO h2 (agW hyq hqo);have:=(dA m ⟨y,hy,hyq⟩).1 this;omega)
     exact(aeQ hqs k aOK hk (λm h1 h2 hm=>by
      obtain⟨y,hy,hyq⟩:=hm;have hLm:=(dA m ⟨y,hy,hyq⟩).2 h2;by_cases e:m=i;subst e;rw[vA] at hLm;cases hLm;have:=S1 IQ hI.closed ho hy vA (by omega) (agW hqo hyq);rw[this] at hLm;cases hLm)).symm
    rw[hki] at Dc;refine hl i o ho hqo c w a _ _ Dc xC Z9 ?_;intro u w' c' Ze OO hu;refine step (i+1) u w' c' (by omega) (λl hl'=>?_) Ze OO hu;by_cases e:l=i;subst e;rw[hMi];simp;rw[hMn l e,dA l hl'];obtain⟨y,hy,hyq⟩:=hl';constructor;intro hlt';have hLl:=(dA l ⟨y,hy,hyq⟩).2 hlt';rcases blM l i with h1 | h1
    omega;have:=S1 IQ hI.closed ho hy vA (by omega) (agW hqo hyq);rw[this] at hLl;cases hLl;intro hlt';have:=Y2 IQ hI.closed hy ho hO (by omega) (agW hyq hqo);exact(dA l ⟨y,hy,hyq⟩).1 this
   |true=>
    have rL:∀l,iQ ops l->((L.setIfInBounds i true).getD l false=true↔l < k):=by
     intro l hl'
     have hne:l≠i:=by intro e;subst e;obtain⟨y,hy,hyq⟩:=hl';rw[ho] at hy;cases hy;rw[hqo] at hyq;cases hyq
     rw[hMn l hne];exact dA l hl'
    have mA:Win ops i k:=by
     refine⟨λl hl' hd=>?_,λl hl' hd=>?_⟩;exact(dA l hl').1 (fX hI.closed (Cl ho) hO hd);rcases blM l k with h1 | h1
     exfalso;have hLl:=(dA l hl').2 h1;obtain⟨y,hy,hyq⟩:=hl';have:=fX hI.closed (Cl hy) (hI.closed l y (Cl hy) hLl) hd;rw[vA] at this;cases this;exact h1
    unfold OC;rcases fS hqo with hqo | ⟨e,hoe⟩
    obtain⟨_,Wi⟩:=hq i o ho hqo;rcases Wi with ⟨hw,hv⟩ | ⟨hw,hv⟩
    rw[<- Z9,hw];simp only[biF,if_false];exact step k undef w c hk rL (Ext.refl c w) Dc (by rw[hv];exact .sc rfl);rw[<- Z9,hw];simp only[if_true];have aXA:=qF Dc xC (λ_=>rfl) (hv k hk mA);obtain⟨u,w',c',hr,Ze,OO,hu⟩:=aXA;unfold bnS;rcases hr with hr | ⟨hr,rfl⟩
    rw[hr];exact step k u w' c' hk rL Ze OO hu;rw[hr];exact step k undef w' c' hk rL Ze OO hu;obtain⟨_,Wi⟩:=ha i o e ho hoe;rcases Wi with ⟨hw,hv⟩ | ⟨hw,z,hz,hrk,hv,aXB⟩
    rw[<- Z9,hw];simp only[biF,if_false];exact step k undef w c hk rL (Ext.refl c w) Dc (by rw[hv];exact .sc rfl);rw[<- Z9,hw];simp only[if_true];have hia:BX o.op=true:=by rw[hoe];rfl
    obtain⟨u,w',c',hr,hm',OO,hu,rK,bdH⟩:=abS (ρ:=a.eval) Dc hoe hz (acS i o ho hia vA hrk) (aXB k hk mA);unfold bnS;rw[hr];refine aKH k u w' c' hk rL (rK cx0 w0 hx (by omega)) hm' (λj y hy rV hj hjn=>?_) OO (by rw[hv];exact hu);have hji:j≠i:=λe=>by subst e;rw[hMi] at hj;cases hj
    rw[hMn j hji] at hj;have hne:rk ops j≠rk ops i:=λe=>hji (aRE hy ho rV hia e);rw[bdH _ (by omega)];exact acS j y hy rV hj hjn
end
end AI
namespace AI
open Go Go.RowKit
def sU{G:AN}{c:Cx}{w:World}{s:AS}{fr:List AV}{a:Act}(hs:St G c w s)(hf:Cw c w fr a.tmps.toList)(x:Operand):lP G c w fr a.eval x:=λ_ hv=>Fh hs hf hv
def NK{P:Program}{ops:Array Oper}{o:Oper}{i:Nat}{l:List Nat}{Q:Exit->Act->World->Prop}{a:Act}{w:World}(ho:ops[i]?=some o)(h:OC P ops o (wpOps P ops Q l) Q a w):wpOps P ops Q (i::l) a w:=by unfold wpOps;rw[ho];unfold OC at h;simp only;split;rename_i hw;rw[if_pos hw] at h;exact .inl h;rename_i hw;rw[if_neg hw] at h;exact h
def Wa.SA{G:AN}{c:Cx}{w:World}{e:AX}{BM:List AV}{s':AS}{e':Exit}{a':Act}{w':World}(h:Wa G c w e BM s' e' a' w')(he:e≠.normal):e'≠.normal:=by obtain⟨c',_,_,_,h4⟩:=h;cases e with|normal=>exact absurd rfl he|exit id=>intro h5;rw[h4.1] at h5;cases h5|ret=>intro h5;rw[h4.1] at h5;cases h5|pan v=>obtain⟨u,h5,_⟩:=h4;intro h6;rw[h5] at h6;cases h6
def YG{K:Act->World->Prop}{Q:Exit->Act->World->Prop}{e:Exit}{a:Act}{w:World}(he:e≠.normal)(h:Q e a w):Exit.then K Q e a w:=by cases e<;>first | exact absurd rfl he | exact h
structure aHR(P:Program)(G:AN)(X:YY)(H:VM):Prop where
 mixed:P.follows .mixedOrders=true
 ext:∀f args s r s',X f args s r s'->Sound P G (.call f args s r s')
 aOM:∀f args g gJ k,H f args=some (g,gJ,k)->∀s r s' r',Sound P G (.call g gJ s r s')->k r=some r'->Sound P G (.call f args s r' s')
def sound{P:Program}{G:AN}{X:YY}{H:VM}(hg:aHR P G X H){jd:Jd}(h:J P G X H jd):Sound P G jd:=by
 induction h with
 |sem h=>exact h hg.mixed
 |ayP hw _ ih=>intro cx w a Q hs hf hd hQ;obtain⟨c2,x,h1,h2⟩:=hw cx w _ hs hf;exact ih c2 w a Q h1 h2 hd (λe a w hp=>hQ e a w (hp.ext x))
 |aKO hw _ ih=>obtain⟨n,ih⟩:=ih;exact⟨n,λcx w a Q hs hf hd hQ=>by obtain⟨c2,x,h1,h2⟩:=hw cx w _ hs hf;exact ih c2 w a Q h1 h2 hd (λe a w hp=>hQ e a w (hp.ext x))⟩
 |adP _ _ hv ih=>
  intro cx w a K Q hs JO hwa hK;exact ih cx w a K Q hs JO hwa (λu w' c' x st hu=>hK u w' c' x st (hv _ _ _ hu))
 |sT _ _ hv ih=>
  intro cx w a K Q hs JO hwa hK;exact ih cx w a K Q hs JO hwa (λu w' c' x st hu=>hK u w' c' x (hv _ _ st) hu)
 |@scope c fr fr2 BM s s2 s' e _ he hsc ih=>
  intro cx w a Q hs hf hd hQ;refine ih cx w a Q hs hf hd ?_;rintro e' a' w' ⟨c',hx,hs',Sv,h4⟩;cases e with
  |normal=>obtain⟨rfl,h5⟩:=h4;obtain⟨c2,x2,XI,f2⟩:=hsc cx w c' w' _ hx hs hs' h5;exact hQ _ _ _ ⟨c2,x2,XI,Sv,rfl,f2⟩
  |exit id=>obtain⟨rfl,h5⟩:=h4;obtain⟨c2,x2,XI,f2⟩:=hsc cx w c' w' _ hx hs hs' h5;exact hQ _ _ _ ⟨c2,x2,XI,Sv,rfl,f2⟩
  |ret=>obtain⟨rfl,h5⟩:=h4;obtain⟨c2,x2,XI,f2⟩:=hsc cx w c' w' _ hx hs hs' h5;exact hQ _ _ _ ⟨c2,x2,XI,Sv,rfl,f2⟩
  |pan v=>exact absurd rfl (he v)
 |skip=>intro cx w a Q hs hf hd hQ;exact wp_skip (hQ _ _ _ ⟨cx,Ext.refl _ _,hs,hd,rfl,hf⟩)
 |exit=>intro cx w a Q hs hf hd hQ;exact wp_exit (hQ _ _ _ ⟨cx,Ext.refl _ _,hs,hd,rfl,hf⟩)
 |ret=>intro cx w a Q hs hf hd hQ;exact wp_ret (hQ _ _ _ ⟨cx,Ext.refl _ _,hs,hd,rfl,hf⟩)
 |seq _ _ ih1 ih2=>
  intro cx w a Q hs hf hd hQ;refine wp_seq (ih1 cx w a _ hs hf hd ?_);rintro e' a' w' ⟨c',hx,hs',Sv,rfl,lM⟩;exact ih2 c' w' a' Q hs' lM Sv (λe2 a2 w2 h2=>hQ e2 a2 w2 (h2.ext hx))
 |aeM _ he ih1=>
  intro cx w a Q hs hf hd hQ;refine wp_seq (ih1 cx w a _ hs hf hd ?_);intro e' a' w' hp;exact YG (hp.SA he) (hQ _ _ _ hp)
 |@cond q x y t fr BM s s' e hq _ ih=>
  intro cx w a Q hs hf hd hQ;have hr:=Fh hs hf hq
  have JO:a.eval q=.bool t:=by generalize a.eval q=v at hr;cases hr;rfl
  exact wp_cond JO (ih cx w a Q hs hf hd hQ)
 |@block id c fr BM s s' e _ ih=>
  intro cx w a Q hs hf hd hQ;refine wp_block (ih cx w a _ hs hf hd ?_);rintro e' a' w' ⟨c',hx,hs',Sv,h4⟩;cases e with
  |normal=>obtain⟨rfl,h5⟩:=h4;exact hQ _ _ _ ⟨c',hx,hs',Sv,rfl,h5⟩
  |exit T5=>
   obtain⟨rfl,h5⟩:=h4;show if T5=id then Q .normal a' w' else Q (.exit T5) a' w'
   by_cases hid:T5=id;rw[if_pos hid];refine hQ _ _ _ ⟨c',hx,hs',Sv,?_⟩;simp only[GU,hid,if_true];exact⟨trivial,h5⟩;rw[if_neg hid];refine hQ _ _ _ ⟨c',hx,hs',Sv,?_⟩;simp only[GU,hid,if_false];exact⟨trivial,h5⟩
  |ret=>obtain⟨rfl,h5⟩:=h4;exact hQ _ _ _ ⟨c',hx,hs',Sv,rfl,h5⟩
  |pan v=>obtain⟨u,rfl,h5⟩:=h4;exact hQ _ _ _ ⟨c',hx,hs',Sv,u,rfl,h5⟩
 |loop _ ih=>
  intro cx w a Q hs hf hd hQ;obtain⟨n,hn⟩:=ih;exact wp_loop_rounds n (hn cx w a Q hs hf hd hQ)
 |atA _ _ ih1 ih2=>
  obtain⟨n,hn⟩:=ih2;refine⟨n+1,?_⟩;intro cx w a Q hs hf hd hQ;rw[rounds_succ];refine ih1 cx w a _ hs hf hd ?_;rintro e' a' w' ⟨c',hx,hs',Sv,rfl,lM⟩;exact hn c' w' a' Q hs' lM Sv (λe2 a2 w2 h2=>hQ e2 a2 w2 (h2.ext hx))
 |iP _ he ih1=>
  refine⟨1,?_⟩;intro cx w a Q hs hf hd hQ;rw[rounds_succ];refine ih1 cx w a _ hs hf hd ?_;intro e' a' w' hp;exact YG (hp.SA he) (hQ _ _ _ hp)
 |region _ ih=>
  intro cx w a Q hs hf hd hQ;exact wp_region (ih cx w a Q hs hf hd hQ)
 |auQ=>intro cx w a Q hs hf hd hQ;exact hQ _ _ _ ⟨cx,Ext.refl _ _,hs,hd,rfl,hf⟩
 |@ahJ ops i l o v fr BM s s1 s' e ho _ _ ih1 ih2=>
  intro cx w a Q hs hf hd hQ;refine NK ho (ih1 cx w a _ _ hs (λx _=>sU hs hf x) (PS (c:=cx) (w:=w) (λ_ _ _ _ _=>⟨fr,hf,rfl⟩)) ?_);intro u w' c' hx hs' hu;exact ih2 c' w' (a.put o.dst u) Q hs' (Q3 (hf.mono hx) hu) (by cases o.dst<;>exact hd) (λe2 a2 w2 h2=>hQ e2 a2 w2 (h2.ext hx))
 |@auR ops i l o v fr s s1 ho _ ih1=>
  intro cx w a Q hs hf hd hQ;refine NK ho (ih1 cx w a _ _ hs (λx _=>sU hs hf x) (PS (c:=cx) (w:=w) (λ_ _ _ _ _=>⟨fr,hf,rfl⟩)) ?_);intro u w' c' hx hs' hu;exact hQ _ _ _ ⟨c',hx,hs',hd,u,rfl,hu⟩
 |@Qe ops o fr s s' v hw h=>
  intro cx w a K Q hs JO hwa hK;unfold OC;rw[<- hwa,hw];simp only[if_true];obtain⟨u,w',c',hr,hx,hs',hu⟩:=qF hs JO (λ_=>rfl) h;unfold bnS;rcases hr with hr | ⟨hr,rfl⟩
  rw[hr];exact hK u w' c' hx hs' hu;rw[hr];exact hK undef w' c' hx hs' hu
 |@auP ops o fr s s' cl x y t tx a b v hw ho IX hxs Fg ha hb h=>
  intro cx w ac K Q hs JO hwa hK;unfold OC;rw[<- hwa,hw];simp only[if_true];have e1:cl.args=#[x,y]:=by apply bjG;rw[hxs]
  have e2:cl.argTypes=#[t,tx]:=by apply bjG;rw[Fg]
  have rO:∀z∈[x,y],z∈o.op.operands:=λz hz=>by rw[ho];simp only[biL,bqY,e1,blV];exact .inr (by simpa using hz)
  obtain⟨u,w',c',hr,hx,hs',hu⟩:=h cx w _ _ o.type hs (JO x (rO x (by simp)) a ha) (JO y (rO y (by simp)) b hb);unfold bnS
  have hr2:(execOp ac.eval o).run P w=.ok (.value u) w':=by simp[execOp,ho,resolve,IX,e1,e2,invoke,builtin,hr]
  rw[hr2];exact hK u w' c' hx hs' hu
 |@adO ops o fr s hw=>
  intro cx w a K Q hs JO hwa hK;unfold OC;rw[<- hwa,hw];simp only[biF,if_false];exact hK undef w cx (Ext.refl _ _) hs (.sc rfl)
 |@U4 ops o fr s s' f args r hw h _ ih=>
  intro cx w a K Q hs JO hwa hK;unfold OC;rw[<- hwa,hw];simp only[if_true];obtain⟨vs,hr,GL⟩:=qF hs JO (λ_=>rfl) h;unfold bnS;rw[hr];refine(ih cx w vs hs GL).mono ?_;rintro e w' ⟨c',hx,hs',h4⟩;cases r with
  |ret v=>obtain⟨u,rfl,hu⟩:=h4;exact hK u w' c' hx hs' hu
  |pan v=>obtain⟨u,rfl,hu⟩:=h4;exact hK u w' c' hx hs' hu
 |@aJU ops o fr s v hw h=>
  intro cx w a K Q hs JO hwa hK;unfold OC;rw[<- hwa,hw];simp only[if_true];obtain⟨u,hr,hu⟩:=qF hs JO (λ_=>rfl) h;unfold bnS;rw[hr];exact hK u w cx (Ext.refl _ _) hs hu
 |@draw id ops f0 s0 rs vals Pd h0 IQ hl hq ha ihl=>
  intro cx w a Q hs hf hd hQ;refine wp_region_any hg.mixed ?_;obtain⟨x,st⟩:=hs.same (vU w);obtain⟨c2,x2,XI,RJ⟩:=st.holds rs;rw[<- h0] at XI;rw[hs.len] at ha;refine aqB (nh:=rs.length) IQ ihl hq cx w ha Q hQ ops.size _ a _ ⟨by simp,?_,⟨c2,0,bjI _,?_,x.trans x2,XI,?_,?_⟩,hd⟩ ?_;intro i o ho hL;exfalso;simp only[bjL,blN] at hL;split at hL<;>simp at hL
  intro l _;simp only[bjL,blN];split<;>simp
  ·have:Js f0 (Cn ops) vals (λj=>(bkJ ops.size false).getD j false) ops.size=f0:=by
    have key:∀n,Js f0 (Cn ops) vals (λj=>(bkJ ops.size false).getD j false) n=f0:=by
     intro n
     induction n with
     |zero=>rfl
     |succ n ih=>
      simp only[Js,ih];rw[if_neg];simp only[bjL,blN];split<;>simp
    exact key _
   rw[this];exact hf.mono (x.trans x2)
  intro j y _ _ _ hj;rw[RJ,bjF (by omega)];simp[List.getElem?_replicate];omega
  ·have key:∀n,vW (λj=>(bkJ ops.size false).getD j false) n=n:=by
    intro n
    induction n with
    |zero=>rfl
    |succ n ih=>
     simp only[vW,ih]
     have:(bkJ ops.size false).getD n false=false:=by simp only[bjL,blN];split<;>simp
     simp only[this];simp
   exact key _
 |@body f fn c args BM s s' s2 e v hf hb _ he hr hk ih=>
  intro cx w vs hs GL;have hl:=GL.len;refine calls_of_wp hf hb (ih cx w _ _ hs ?_ rfl ?_);simp only[bnB,bmN];rw[bjY,hl];exact GL.append (Cw.replicate (.sc rfl) _);rintro e' a' w' ⟨c',hx,hs',Sv,h4⟩
  have nU:St G c' w' s2:=by
   rcases hk with rfl | rfl
   exact hs'.cut _;exact hs'
  rcases he with rfl | rfl
  obtain⟨rfl,h5⟩:=h4;obtain⟨u,h6,h7⟩:=Q4 hs' h5 hr;exact⟨Sv,u,h6,c',hx,nU,u,rfl,h7⟩;obtain⟨rfl,h5⟩:=h4;obtain⟨u,h6,h7⟩:=Q4 hs' h5 hr;exact⟨Sv,u,h6,c',hx,nU,u,rfl,h7⟩
 |@aHY f fn c args BM s s' v hf hb _ ih=>
  intro cx w vs hs GL;have hl:=GL.len;refine calls_of_wp hf hb (ih cx w _ _ hs ?_ rfl ?_);simp only[bnB,bmN];rw[bjY,hl];exact GL.append (Cw.replicate (.sc rfl) _);rintro e' a' w' ⟨c',hx,hs',Sv,u,rfl,h5⟩;exact⟨Sv,c',hx,hs'.cut _,u,rfl,h5⟩
 |ext h=>exact hg.ext _ _ _ _ _ h
 |aOM hh _ hk ih=>exact hg.aOM _ _ _ _ _ hh _ _ _ _ ih hk
end AI
namespace AI
open Go Go.RowKit
def aMN:Value->Value->Bool
 |.int k a,.int k' b=>k == k'&&a == b
 |.bool a,.bool b=>a == b
 |.string a,.string b=>a.data.toList == b.data.toList
 |.nilIface,.nilIface=>true
 |.nilFunc,.nilFunc=>true
 |.pointer none,.pointer none=>true
 |.map none,.map none=>true
 |.tuple a,.tuple b=>a.size == 0&&b.size == 0
 |_,_=>false
def azM{a b:Value}(h:aMN a b=true):a=b:=by unfold aMN at h;split at h;simp at h;rw[h.1,h.2];simp at h;rw[h];simp only[beq_iff_eq] at h;rename_i x y;have:x=y:=ByteArray.ext (bjG h);rw[this];rfl;rfl;rfl;rfl;rename_i x y;simp at h;rw[h.1,h.2];cases h
mutual
def WI:AV->AV->Bool
 |.sc a,.sc b=>aMN a b
 |.agg a,.agg b=>fN a b
 |.Gx a,.Gx b=>fN a b
 |.sl o n a,.sl p m b=>decide (o=p)&&n == m&&fN a b
 |.Im a b c,.Im x y z=>a == x&&b == y&&c == z
 |.el a,.el b=>fN a b
 |.ptr a b,.ptr x y=>a == x&&b == y
 |.fn f a b,.fn g x y=>decide (f=g)&&fN a x&&fN b y
 |.ifc t a,.ifc u b=>t == u&&WI a b
 |.mp a,.mp b=>a == b
 |_,_=>false
def fN:List AV->List AV->Bool
 |[],[]=>true
 |a::as,b::bs=>WI a b&&fN as bs
 |_,_=>false
end
mutual
def afR:∀{a b:AV},WI a b=true->a=b
 |.sc a,b,h=>by cases b<;>simp[WI] at h;rw[azM h]
 |.agg a,b,h=>by cases b<;>simp[WI] at h;rw[Q5 h]
 |.Gx a,b,h=>by cases b<;>simp[WI] at h;rw[Q5 h]
 |.sl o n a,b,h=>by cases b<;>simp[WI] at h;rw[h.1.1,h.1.2,Q5 h.2]
 |.Im _ _ _,b,h=>by cases b<;>simp[WI] at h;rw[h.1.1,h.1.2,h.2]
 |.el a,b,h=>by cases b<;>simp[WI] at h;rw[Q5 h]
 |.ptr _ _,b,h=>by cases b<;>simp[WI] at h;rw[h.1,h.2]
 |.fn f a c,b,h=>by cases b<;>simp[WI] at h;rw[h.1.1,Q5 h.1.2,Q5 h.2]
 |.ifc t a,b,h=>by cases b<;>simp[WI] at h;rw[h.1,afR h.2]
 |.mp _,b,h=>by cases b<;>simp[WI] at h;rw[h]
 |.any,b,h=>by cases b<;>simp[WI] at h
def Q5:∀{a b:List AV},fN a b=true->a=b
 |[],b,h=>by cases b<;>simp[fN] at h;rfl
 |a::as,b,h=>by cases b<;>simp[fN] at h;rw[afR h.1,Q5 h.2]
end
def reads:Op->Bool
 |.load .. | .lookup ..=>true
 |.call cl=>(match cl.callee with|.builtin .len=>true|_=>false)
 |_=>false
def Zr{P:Program}{G:AN}{fr:List AV}{s:AS}{o:Oper}{r:AR}(hq:quiet o.op=true)(h:SR P G fr s o=some r):∃v,r=.val v s:=by
 unfold SR at h;split at h<;>rename_i ho<;>(try (rw[ho] at hq;simp[quiet] at hq;done))
 all_goals first
  |(obtain⟨v,_,rfl⟩:=map_some h;exact⟨_,rfl⟩)
  | (split at h
     all_goals first
      |(obtain⟨v,_,rfl⟩:=map_some h;exact⟨_,rfl⟩)
      |(cases h;done)
      |(cases h;exact⟨_,rfl⟩)
      | (split at h
         all_goals first
          |(cases h;done)
          |(cases h;exact⟨_,rfl⟩)))
  |(obtain⟨_,_,h2⟩:=bind_some h;obtain⟨v,_,rfl⟩:=map_some h2;exact⟨_,rfl⟩)
  | (rw[ho] at hq
     unfold Wc at h;split at h
     all_goals first
      |(obtain⟨_,_,h2⟩:=bind_some h;obtain⟨v,_,rfl⟩:=map_some h2;exact⟨_,rfl⟩)
      |(rename_i IX;simp[quiet,IX] at hq;done)
      | (split at h
         all_goals first
          |(obtain⟨v,_,rfl⟩:=map_some h;exact⟨_,rfl⟩)
          |(cases h;done))
      |(cases h;done))
  |(cases h;done)
def W9{P:Program}{G:AN}{fr:List AV}{s:AS}{o:Oper}{v:AV}{s':AS}(hq:quiet o.op=true)(hr:reads o.op=false)(h:SR P G fr s o=some (.val v s'))(s2:AS):SR P G fr s2 o=some (.val v s2):=by
 have e:=Zr hq h;obtain⟨v',e⟩:=e;injection e with e1 e2
 subst e1 e2;obtain⟨dst,op,ty,pos,after,guard⟩:=o;cases op<;>simp only[quiet,reads,biF] at hq hr<;>simp only[SR] at h ⊢
 all_goals first
  |(obtain⟨v',h1,h2⟩:=map_some h;injection h2 with h2;subst h2;rw[h1];rfl)
  |(obtain⟨q,h0,h2⟩:=bind_some h;obtain⟨v',h1,h3⟩:=map_some h2;injection h3 with h3;subst h3;rw[h0,Uu,h1];rfl)
  | (split at h
     all_goals first
      |(obtain⟨v',h1,h2⟩:=map_some h;injection h2 with h2;subst h2;simp only[*,bhK];done)
      |(cases h;done)
      |(cases h;simp only[*];done)
      | (split at h
         all_goals first
          |(cases h;done)
          |(cases h;simp[*];done)))
  |(cases hr;done)
  | (rename_i cl
     unfold Wc at h ⊢;split at h
     all_goals first
      |(rename_i IX;simp[IX] at hr;done)
      |(rename_i IX;simp[IX] at hq;done)
      |(simp only;obtain⟨q,h0,h2⟩:=bind_some h;obtain⟨v',h1,h3⟩:=map_some h2;injection h3 with h3;subst h3;rw[h0,Uu,h1];rfl)
      |(cases h;done))
end AI
namespace AI
open Go Go.RowKit
inductive Tk where
 |code (c:Code) (fr:List AV) (s:AS)
 |loop (c:Code) (fr:List AV) (s:AS)
 |ops (ops:Array Oper) (l:List Oper) (fr:List AV) (s:AS)
 |draw (ops:Array Oper) (l:List Oper) (fr:List AV) (s:AS) (q:Nat)
 |op (ops:Array Oper) (o:Oper) (fr:List AV) (s:AS)
 |call (f:FuncId) (args:List AV) (s:AS)
inductive Rs where
 |code (e:AX) (fr:List AV) (s:AS)
 |call (r:CR) (s:AS)
 |tr (l:List (List AV×AS×AV)) (fr:List AV) (s:AS)
abbrev aHP:=FuncId->List AV->AS->Option (CR×AS)
def Pq:List Oper->Nat->List Nat
 |[],_=>[]
 |o::os,i=>if calm o.op then Pq os (i+1) else i::Pq os (i+1)
def ayQ(ms:List Nat)(ls:List Nat)(i k:Nat):Bool:=ls.all λl=>(!VB ms i l||decide (l < k))&&(!VB ms l i||decide (k<=l))
def ahY(P:Program)(G:AN)(ms ls:List Nat)(i:Nat)(o:Oper)(fr:List AV)(v:AV):List AS->Nat->Bool
 |[],_=>true
 |s::ss,k=>(!ayQ ms ls i k||(match SR P G fr s o with|some (.val u _)=>WI u v|_=>false))&&ahY P G ms ls i o fr v ss (k+1)
def aiC(P:Program)(G:AN)(ops:Array Oper)(ms ls:List Nat)(Pd:List AS):List Oper->List (List AV×AS×AV)->Nat->Bool
 |o::os,t::ts,i=>(!(quiet o.op&&reads o.op)||!CI ops t.1 o||ahY P G ms ls i o t.1 t.2.2 Pd 0)&&aiC P G ops ms ls Pd os ts (i+1)
 |_,_,_=>true
def fP(ms ls:List Nat)(i id:Nat)(cs:List AV):List AS->Nat->Bool
 |[],_=>true
 |s::ss,k=>(!ayQ ms ls i k||(match s.get id with|some (.cells ds)=>fN ds cs|_=>false))&&fP ms ls i id cs ss (k+1)
def WD(P:Program)(ops:Array Oper)(ms ls:List Nat)(Pd:List AS):List Oper->List (List AV×AS×AV)->Nat->Nat->Bool
 |o::os,t::ts,i,q=>(match o.op with
  |.alloc e=>(!CI ops t.1 o||(match N6 P e with|some z=>fP ms ls i q (cellsOf z) Pd 0|none=>false))&&WD P ops ms ls Pd os ts (i+1) (q+1)
  |_=>WD P ops ms ls Pd os ts (i+1) q)
 |_,_,_,_=>true
def rsv(P:Program):List Oper->Option (List Ay)
 |[]=>some []
 |o::l=>(match o.op with
  |.alloc e=>(match N6 P e,rsv P l with|some z,some r=>some (.cells (cellsOf z)::r)|_,_=>none)
  |_=>rsv P l)
def aEN(P:Program)(G:AN)(ops:Array Oper)(tr:List (List AV×AS×AV))(sf:AS):Bool :=
 match Pq ops.toList 0 with|[]=>true|ls=>aiC P G ops (I7 ops.toList []) ls (tr.map (·.2.1)++[sf]) ops.toList tr 0
def dT(P:Program)(ops:Array Oper)(tr:List (List AV×AS×AV))(sf:AS)(q:Nat):List Ay->Bool
 |[]=>true
 |_=>WD P ops (I7 ops.toList []) (Pq ops.toList 0) (tr.map (·.2.1)++[sf]) ops.toList tr 0 q
def aSA(P:Program)(G:AN)(ops:Array Oper)(tr:List (List AV×AS×AV))(sf:AS)(q:Nat)(r:List Ay):Bool :=
 match aEN P G ops tr sf with|true=>dT P ops tr sf q r|false=>false
def aVL:AV->Bool
 |.ptr _ _ | .Im _ _ _ | .mp _ | .fn _ _ _=>true
 |_=>false
def aNG:List AV->Bool
 |[]=>false
 |a::l=>match aVL a with|true=>true|false=>aNG l
def esc:AV->Bool
 |.agg l=>aNG l
 |.Gx l=>aNG l
 |a=>aVL a
def fin(v:AV)(s:AS)(n:Nat):AS:=match esc v with|true=>s|false=>s.cut n
def RA(ops:Array Oper)(fr:List AV)(o:Oper)(q:Nat):AV:=match CI ops fr o with|true=>.ptr q 0|false=>.sc undef
inductive VO(P:Program)(G:AN)(X:YY)(H:VM)(ops:Array Oper):Nat->List Oper->List AV->AS->List (List AV×AS×AV)->List AV->AS->Prop where
 |nil {q:Nat}{fr:List AV}{s:AS}:VO P G X H ops q [] fr s [] fr s
 |cons {q:Nat}{o:Oper}{l:List Oper}{fr BM:List AV}{s s1 s':AS}{v:AV}{t:List (List AV×AS×AV)} (ha:BX o.op=false) (h:J P G X H (.op ops o fr s (.ret v) s1)) (k:VO P G X H ops q l (JB fr o.dst v) s1 t BM s'):VO P G X H ops q (o::l) fr s ((fr,s,v)::t) BM s'
 |alloc {q:Nat}{o:Oper}{l:List Oper}{fr BM:List AV}{s s':AS}{t:List (List AV×AS×AV)} (ha:BX o.op=true) (k:VO P G X H ops (q+1) l (JB fr o.dst (RA ops fr o q)) s t BM s'):VO P G X H ops q (o::l) fr s ((fr,s,RA ops fr o q)::t) BM s'
section
variable {P:Program}{G:AN}{X:YY}{H:VM}{ops:Array Oper}
def VO.len{q:Nat}{l:List Oper}{fr BM:List AV}{s s':AS}{t:List (List AV×AS×AV)}(h:VO P G X H ops q l fr s t BM s'):t.length=l.length:=by induction h with|nil=>rfl|cons _ _ _ ih=>simp[ih]|alloc _ _ ih=>simp[ih]
def GI(t:List (List AV×AS×AV))(sf:AS)(i:Nat):AS:=match t[i]? with|some x=>x.2.1|none=>sf
def LS(t:List (List AV×AS×AV))(i:Nat):AV:=match t[i]? with|some x=>x.2.2|none=>.sc undef
def VO.at{q:Nat}{l:List Oper}{fr BM:List AV}{s s':AS}{t:List (List AV×AS×AV)}(h:VO P G X H ops q l fr s t BM s'):GI t s' 0=s/\∀i o,l[i]?=some o->∃fi,t[i]?=some (fi,GI t s' i,LS t i) /\
 ((BX o.op=false/\J P G X H (.op ops o fi (GI t s' i) (.ret (LS t i)) (GI t s' (i+1))))\/(BX o.op=true/\GI t s' (i+1)=GI t s' i/\LS t i=RA ops fi o (q+rkL l i))):=by
 induction h with
 |nil=>exact⟨rfl,λi o ho=>by simp at ho⟩
 |@cons q o l fr BM s s1 s' v t ha h k ih=>
  refine⟨rfl,λi o' ho=>?_⟩;cases i with
  |zero=>
   simp at ho;subst ho;refine⟨fr,rfl,.inl ⟨ha,?_⟩⟩
   have:GI ((fr,s,v)::t) s' 1=s1:=by have:=ih.1;unfold GI at this ⊢;simpa using this
   rw[this];exact h
  |succ i=>
   obtain⟨fi,h1,h2⟩:=ih.2 i o' (by simpa using ho)
   refine⟨fi,?_,?_⟩;have:((fr,s,v)::t)[i+1]?=t[i]?:=by simp
   rw[this,h1];simp[GI,LS];simp only[rkL,ha,bhC];simpa[GI,LS] using h2
 |@alloc q o l fr BM s s' t ha k ih=>
  refine⟨rfl,λi o' ho=>?_⟩;cases i with
  |zero=>
   simp at ho;subst ho;refine⟨fr,rfl,.inr ⟨ha,?_,?_⟩⟩;have:=ih.1;unfold GI at this ⊢;simpa using this
   simp[LS,rkL]
  |succ i=>
   obtain⟨fi,h1,h2⟩:=ih.2 i o' (by simpa using ho)
   refine⟨fi,?_,?_⟩;have:((fr,s,RA ops fr o q)::t)[i+1]?=t[i]?:=by simp
   rw[this,h1];simp[GI,LS];simp only[rkL,ha];rw[<- blB];simpa[GI,LS] using h2
def VO.qW{q:Nat}{l:List Oper}{fr BM:List AV}{s s':AS}{t:List (List AV×AS×AV)}(h:VO P G X H ops q l fr s t BM s')(dst:Nat->Option Tmp)(vals:Nat->AV)(f0:List AV)(k:Nat)(Ob:fr=Js f0 dst vals (λ_=>true) k)(hd:∀i o,l[i]?=some o->dst (k+i)=o.dst)(hv:∀i,vals (k+i)=LS t i\/l.length<=i) :
   BM=Js f0 dst vals (λ_=>true) (k+l.length)/\∀i x,t[i]?=some x->x.1=Js f0 dst vals (λ_=>true) (k+i):=by
 have key:∀{q:Nat}{o:Oper}{l:List Oper}{fr BM:List AV}{s:AS}{v:AV}{t:List (List AV×AS×AV)}
     (_:∀(k:Nat),JB fr o.dst v=Js f0 dst vals (λ_=>true) k->(∀i o,l[i]?=some o->dst (k+i)=o.dst)->(∀i,vals (k+i)=LS t i\/l.length<=i)->BM=Js f0 dst vals (λ_=>true) (k+l.length)/\∀i x,t[i]?=some x->x.1=Js f0 dst vals (λ_=>true) (k+i))
     (k:Nat),fr=Js f0 dst vals (λ_=>true) k->(∀i o',(o::l)[i]?=some o'->dst (k+i)=o'.dst)->(∀i,vals (k+i)=LS ((fr,s,v)::t) i\/(o::l).length<=i) ->
     BM=Js f0 dst vals (λ_=>true) (k+(o::l).length)/\∀i x,((fr,s,v)::t)[i]?=some x->x.1=Js f0 dst vals (λ_=>true) (k+i):=by
   intro q o l fr BM s v t ih k Ob hd hv;have hd0:=hd 0 o rfl
   have hv0:vals k=v:=by
    rcases hv 0 with h0 | h0
    simpa[LS] using h0
    simp at h0
   have:=ih (k+1) (by simp only[Js,if_true];rw[Ob,<- hd0,hv0];rfl) (λi o' Wj=>by have:=hd (i+1) o' (by simpa using Wj);rwa[show k+1+i=k+(i+1) from by omega]) (λi=>by
    rcases hv (i+1) with h1 | h1
    left;rw[show k+1+i=k+(i+1) from by omega,h1];simp[LS];right;simp at h1;omega)
   refine⟨by rw[this.1];congr 1;simp;omega,λi x hx=>?_⟩;cases i with
   |zero=>simp at hx;subst hx;exact Ob
   |succ i=>
    have h2:=this.2 i x (by simpa using hx)
    rw[h2];congr 1;omega
 induction h generalizing k with|nil=>exact⟨Ob,λi x hx=>by simp at hx⟩|@cons q o l fr BM s s1 s' v t ha h _ ih=>exact key (q:=q) (λk h1 h2 h3=>ih k h1 h2 h3) k Ob hd hv|@alloc q o l fr BM s s' t ha _ ih=>exact key (q:=q) (λk h1 h2 h3=>ih k h1 h2 h3) k Ob hd hv
def aGQ{i k:Nat}{ls:List Nat}(hls:∀l,l∈ls->iQ ops l)(h:Win ops i k):ayQ (I7 ops.toList []) ls i k=true:=by unfold ayQ;rw[bjM];intro l hl;have h1:=h.1 l (hls l hl);have h2:=h.2 l (hls l hl);cases hd1:VB (I7 ops.toList []) i l<;>cases hd2:VB (I7 ops.toList []) l i<;>simp_all
def sF{os:List Oper}{i l:Nat}(h:l∈Pq os i):∃j o,l=i+j/\os[j]?=some o/\calm o.op=false:=by
 induction os generalizing i with
 |nil=>simp[Pq] at h
 |cons x os ih=>
  simp only[Pq] at h;split at h;obtain⟨j,o,h1,h2,h3⟩:=ih h;exact⟨j+1,o,by omega,by simpa using h2,h3⟩
  rename_i hq;rcases bhJ.1 h with h | h
  exact⟨0,x,by omega,rfl,by simpa using hq⟩
  obtain⟨j,o,h1,h2,h3⟩:=ih h;exact⟨j+1,o,by omega,by simpa using h2,h3⟩
def KS{o:Oper}{fr:List AV}{s s':AS}{v:AV}(hq:quiet o.op=true)(h:J P G X H (.op ops o fr s (.ret v) s')):s'=s/\((CI ops fr o=false/\v=.sc undef)\/(CI ops fr o=true/\SR P G fr s o=some (.val v s))):=by
 cases h with
 |Qe hw h=>
  obtain⟨v',e⟩:=Zr hq h;injection e with e1 e2
  subst e2;exact⟨rfl,.inr ⟨hw,h⟩⟩
 |adO hw=>exact⟨rfl,.inl ⟨hw,rfl⟩⟩
 |U4 hw h hc=>
  obtain⟨v',e⟩:=Zr hq h;cases e
 |adP nT=>rw[hq] at nT;cases nT
 |sT nT=>rw[hq] at nT;cases nT
 |auP _ ho IX=>simp[quiet,ho,IX] at hq
def akO{ms ls:List Nat}{i id:Nat}{cs:List AV}{ss:List AS}{k0:Nat}(h:fP ms ls i id cs ss k0=true){k:Nat}{s:AS}(hs:ss[k]?=some s)(hw:ayQ ms ls i (k0+k)=true):s.get id=some (.cells cs):=by
 induction ss generalizing k0 k with
 |nil=>simp at hs
 |cons x ss ih=>
  simp only[fP,bhB] at h;cases k with
  |zero=>
   simp at hs;subst hs;rw[bjU] at hw;have h1:=h.1;rw[hw] at h1;simp only[bpQ,boA] at h1;split at h1;rename_i ds hu;rw[hu,Q5 h1];cases h1
  |succ k=>exact ih h.2 (by simpa using hs) (by rwa[show k0+1+k=k0+(k+1) from by omega])
def akH{ms ls:List Nat}{Pd:List AS}{os:List Oper}{ts:List (List AV×AS×AV)}{i0 q:Nat}(h:WD P ops ms ls Pd os ts i0 q=true){i:Nat}{o:Oper}{e:TypeId}{x:List AV×AS×AV}(ho:os[i]?=some o)(hx:ts[i]?=some x)(he:o.op=.alloc e)(hw:CI ops x.1 o=true):∃z,N6 P e=some z/\fP ms ls (i0+i) (q+rkL os i) (cellsOf z) Pd 0=true:=by
 induction os generalizing ts i0 i q with
 |nil=>simp at ho
 |cons y os ih=>
  cases ts with
  |nil=>simp at hx
  |cons t ts=>
   cases i with
   |zero=>
    simp at ho hx;subst ho hx;simp only[WD,he,hw,bpQ,boA,bhB] at h;have h1:=h.1;split at h1;rename_i z hz;exact⟨z,hz,h1⟩;cases h1
   |succ i=>
    simp only[WD] at h;split at h;rename_i e' he';rw[bhB] at h;have:=ih h.2 (by simpa using ho) (by simpa using hx)
    simp only[rkL,he',BX];rwa[show i0+1+i=i0+(i+1) from by omega,blB q] at this;rename_i hne;have:=ih h (by simpa using ho) (by simpa using hx)
    have hna:BX y.op=false:=by cases rV:BX y.op with|false=>rfl|true=>obtain⟨e',he'⟩:=L8 rV;exact absurd he' (hne e')
    simp only[rkL,hna,bhC];rwa[show i0+1+i=i0+(i+1) from by omega] at this
def aDY{l:List Oper}{r:List Ay}(h:rsv P l=some r):r.length=rkL l l.length:=by
 induction l generalizing r with
 |nil=>simp[rsv] at h;subst h;rfl
 |cons o l ih=>
  simp only[rsv] at h;split at h;rename_i e he;split at h;rename_i z r' hz hr;cases h;simp only[bhE,rkL,he,BX,ih hr];omega;cases h;rename_i hne
  have hna:BX o.op=false:=by cases rV:BX o.op with|false=>rfl|true=>obtain⟨e',he'⟩:=L8 rV;exact absurd he' (hne e')
  simp only[bhE,rkL,hna,ih h];omega
def T1{o:Oper}{e:TypeId}(h:o.op=.alloc e):quiet o.op=false:=by rw[h];rfl
end
end AI
namespace AI
open Go Go.RowKit
def inI:Int->Bool
 |.ofNat m=>bmY m 9223372036854775807
 |.negSucc m=>bmY m 9223372036854775807
def OD(k:IntKind)(n:Int):Int:=match k with
 |.i64=>(match inI n with | true=>n | false=>bmL.wrap n)
 |k=>k.wrap n
def aPF{n:Int}(h:inI n=true):bmL.wrap n=n:=by
 refine bmW n ?_;cases n with
 |ofNat m=>
  have:=bhG h;have e:Int.ofNat m=(m:Int):=rfl;rw[e];have h2:(m:Int)<=9223372036854775807:=brM.2 this;have h3:(0:Int)<=m:=brF m;omega
 |negSucc m=>
  have:=bhG h;rw[Int.negSucc_eq];constructor;have e:(-9223372036854775808:Int)=-(9223372036854775807+1):=rfl;rw[e];have h2:(m:Int)<=9223372036854775807:=brM.2 this;omega;have h2:(0:Int)<=m:=brF m;omega
def Vr(k:IntKind)(n:Int):OD k n=k.wrap n:=by
 cases k<;>try rfl
 simp only[OD];cases h:inI n with|true=>exact(aPF h).symm|false=>rfl
def aoK:Int->Int->Int
 |.ofNat a,.ofNat b=>.ofNat (Nat.add a b)
 |a,b=>a+b
def pY(a b:Int):aoK a b=a+b:=by cases a<;>cases b<;>rfl
def baH(a b:Nat):Int:=match bmY b a with|true=>.ofNat (Nat.sub a b)|false=>(a:Int) - (b:Int)
def mK:Int->Int->Int
 |.ofNat a,.ofNat b=>baH a b
 |a,b=>a - b
def uG(a b:Int):mK a b=a - b:=by
 cases a<;>cases b<;>try rfl
 rename_i a b;simp only[mK,baH];cases h:bmY b a with
 |true=>
  have:=bhG h;show Int.ofNat (a - b)=(a:Int) - (b:Int);exact Int.ofNat_sub this
 |false=>rfl
def A8:Int->Int->Bool
 |.ofNat a,.ofNat b=>biS a b
 |.negSucc a,.negSucc b=>biS a b
 |_,_=>false
def UL(a b:Int):A8 a b=(a == b):=by
 cases a<;>cases b<;>simp only[A8]
 rename_i a b;rw[bjA,beq_iff_eq,Int.ofNat.injEq];exact⟨λh=>bjK h,λh=>by subst h;exact blD a⟩;rw[bjA,beq_iff_eq];exact⟨λh=>by simp at h,λh=>by cases h⟩;rw[bjA,beq_iff_eq];exact⟨λh=>by simp at h,λh=>by cases h⟩;rename_i a b;rw[bjA,beq_iff_eq,Int.negSucc.injEq];exact⟨λh=>bjK h,λh=>by subst h;exact blD a⟩
def My:Int->Int->Bool
 |.ofNat a,.ofNat b=>bmY a b
 |a,b=>decide (a<=b)
def iM(a b:Int):My a b=decide (a<=b):=by
 cases a<;>cases b<;>try rfl
 rename_i a b;simp only[My];rw[bjA,decide_eq_true_iff];show _↔(a:Int)<=(b:Int);rw[brM];exact⟨bhG,blI⟩
def Cy:Int->Int->Bool
 |.ofNat a,.ofNat b=>bmY (Nat.succ a) b
 |a,b=>decide (a < b)
def Tc(a b:Int):Cy a b=decide (a < b):=by
 cases a<;>cases b<;>try rfl
 rename_i a b;simp only[Cy];rw[bjA,decide_eq_true_iff];show _↔(a:Int) < (b:Int);rw[Int.ofNat_lt];exact⟨bhG,blI⟩
def sameKind:IntKind->IntKind->Bool
 |.i64,.i64=>true
 |.u8,.u8=>true
 |_,_=>false
def aaD{a b:IntKind}(h:sameKind a b=true):a=b:=by cases a<;>cases b<;>first | rfl | cases h
def aBL(k:IntKind)(a b:Int):BinOp->Option Value
 |.add=>some (.int k (OD k (aoK a b)))
 |.sub=>some (.int k (OD k (mK a b)))
 |.mul=>some (.int k (OD k (a*b)))
 |.eql=>some (.bool (A8 a b))
 |.neq=>some (.bool (!A8 a b))
 |.lss=>some (.bool (Cy a b))
 |.leq=>some (.bool (My a b))
 |.gtr=>some (.bool (Cy b a))
 |.geq=>some (.bool (My b a))
 |_=>none
def aBM{P:Program}{op:BinOp}{k:IntKind}{a b:Int}{t:TypeId}{xo yo:Operand}{v:Value}(h:aBL k a b op=some v):pv P (do eqGuard op t xo yo (.int k a) (.int k b);binOp op t (.int k a) (.int k b))=some v/\scalar v=true:=by cases op<;>simp only[aBL,atS,reduceCtorEq] at h<;>subst h<;>refine⟨?_,rfl⟩<;>simp[eqGuard,binOp,Op.intArith,Op.intCmp,pv,Vr,pY,uG,UL,Tc,iM,bne,Bind.bind,Sem.bind,Pure.pure]
def Bd:List UInt8->List UInt8->Bool
 |[],[]=>true
 |a::l,b::m=>(match biS a.toNat b.toNat with|true=>Bd l m|false=>false)
 |_,_=>false
def RC(l m:List UInt8):Bd l m=(l == m):=by
 induction l generalizing m with
 |nil=>cases m<;>rfl
 |cons a l ih=>
  cases m with
  |nil=>rfl
  |cons b m=>
   simp only[Bd];cases h:biS a.toNat b.toNat with
   |true=>
    have:a=b:=UInt8.toNat_inj.1 (bjK h);subst this;simp only[ih];simp
   |false=>
    have:a≠b:=λe=>by subst e;have:=blR h;exact this rfl
    simp[this]
def aSC(x y:ByteArray):BinOp->Option Value
 |.eql=>some (.bool (Bd x.data.toList y.data.toList))
 |.neq=>some (.bool (!Bd x.data.toList y.data.toList))
 |op=>akL op x y
def aEP(x y:ByteArray)(op:BinOp):aSC x y op=akL op x y:=by cases op<;>simp only[aSC,akL,RC]
def avU(v:Option Value):Option AV:=match v with
 |some v=>(match scalar v with | true=>some (.sc v) | false=>none)
 |none=>none
def avV(v:Option Value):avU v=v.bind mI:=by cases v with|none=>rfl|some v=>simp only[avU,Uu,mI];cases scalar v<;>rfl
def scF(P:Program)(op:BinOp)(t:TypeId)(xo yo:Operand)(x y:Value):Option AV :=
 match x with
 |.int k a=>(match y with
  |.int k' b=>(match sameKind k k' with
   |true=>(match aBL k a b op with|some v=>some (.sc v)|none=>N3 P op t xo yo (.sc (.int k a)) (.sc (.int k' b)))
   |false=>N3 P op t xo yo (.sc (.int k a)) (.sc (.int k' b)))
  |y=>N3 P op t xo yo (.sc (.int k a)) (.sc y))
 |.string a=>(match y with|.string b=>avU (aSC a b op)|y=>N3 P op t xo yo (.sc (.string a)) (.sc y))
 |x=>N3 P op t xo yo (.sc x) (.sc y)
def fB(P:Program)(op:BinOp)(t:TypeId)(xo yo:Operand)(a b:AV):Option AV :=
 match a with
 |.sc x=>(match b with|.sc y=>scF P op t xo yo x y|b=>N3 P op t xo yo (.sc x) b)
 |a=>N3 P op t xo yo a b
def Uy(P:Program)(op:BinOp)(t:TypeId)(xo yo:Operand)(a b:AV):fB P op t xo yo a b=N3 P op t xo yo a b:=by
 unfold fB;cases a with
 |sc x=>
  cases b with
  |sc y=>
   simp only[scF];cases x with
   |int k a=>
    cases y with
    |int k' b=>
     simp only;cases hk:sameKind k k' with
     |false=>rfl
     |true=>
      have:=aaD hk;subst this;simp only;cases hf:aBL k a b op with
      |none=>rfl
      |some v=>
       obtain⟨h1,h2⟩:=aBM (P:=P) (t:=t) (xo:=xo) (yo:=yo) hf;simp[N3,Wb,YI,h1,mI,h2]
    |_=>rfl
   |string a=>
    cases y with|string b=>simp only[avV,aEP];rfl|_=>rfl
   |_=>rfl
  |_=>rfl
 |_=>rfl
def auG:List UInt8->Nat->Option UInt8
 |[],_=>none
 |a::_,0=>some a
 |_::l,n+1=>auG l n
def aCM(l:List UInt8)(n:Nat):auG l n=l[n]?:=by induction l generalizing n with|nil=>simp[auG]|cons a l ih=>cases n<;>simp[auG,ih]
def aUS:Option UInt8->Option AV
 |some b=>some (.sc (.int .u8 (.ofNat b.toNat)))
 |none=>none
def cT(P:Program)(t:TypeId)(x ix:AV):Option AV :=
 match x with
 |.sc (.string s)=>(match P.underlying t with
  |some .string=>(match Uc ix with|some i=>aUS (auG s.data.toList i)|none=>none)
  |_=>MH P t (.sc (.string s)) ix)
 |x=>MH P t x ix
def abQ(P:Program)(t:TypeId)(x ix:AV):cT P t x ix=MH P t x ix:=by
 unfold cT;cases x with
 |sc v=>
  cases v with
  |string s=>
   simp only;split
   ·rename_i hu
    unfold MH;rw[hu];cases Uc ix with
    |none=>rfl
    |some i=>
     simp only[aCM];cases s.data.toList[i]?<;>rfl
   rfl
  |_=>rfl
 |_=>rfl
end AI
namespace AI
open Go Go.RowKit
def nth:List AV->Nat->AV
 |[],_=>.sc undef
 |a::_,0=>a
 |_::l,n+1=>nth l n
def aQE(l:List AV)(n:Nat):nth l n=l.getD n (.sc undef):=by induction l generalizing n with|nil=>simp[nth]|cons a l ih=>cases n<;>simp[nth,ih]
def evG:Option (List AV)->Option AV
 |some cs=>some (.el cs)
 |none=>none
def AP(G:AN)(fr:List AV):Operand->Option AV
 |.tmp t=>some (nth fr t)
 |.const v=>aG v
 |.global g=>evG (G g)
 |.func f=>some (.fn (.func f) [] [])
def CE(G:AN)(fr:List AV)(x:Operand):AP G fr x=AY G fr x:=by cases x with|tmp t=>simp only[AP,AY,aQE]|const v=>rfl|global g=>simp only[AP,AY];cases G g<;>rfl|func f=>rfl
def OB(s:AS):Option AV->Option AR
 |some v=>some (.val v s)
 |none=>none
def VK(s:AS)(o:Option AV):OB s o=o.map (λv=>.val v s):=by cases o<;>rfl
def aaY:Option AS->Option AR
 |some s=>some (.val (.sc undef) s)
 |none=>none
def aGD(o:Option AS):aaY o=o.map (λs=>.val (.sc undef) s):=by cases o<;>rfl
def anL:Option (AV×AS)->Option AR
 |some r=>some (.val r.1 r.2)
 |none=>none
def aiU(o:Option (AV×AS)):anL o=o.map (λr=>.val r.1 r.2):=by cases o<;>rfl
def uX{α β:Type}(o:Option α)(f:α->Option β):Option β:=match o with|some a=>f a|none=>none
def qJ{α β:Type}(o:Option α)(f:α->Option β):uX o f=o.bind f:=by cases o<;>rfl
def two{β:Type}(a b:Option AV)(f:AV->AV->Option β):Option β:=match a with
 |some x=>(match b with|some y=>f x y|none=>none)
 |none=>none
def three{β:Type}(a b d:Option AV)(f:AV->AV->AV->Option β):Option β:=match a with
 |some x=>(match b with
  |some y=>(match d with|some z=>f x y z|none=>none)
  |none=>none)
 |none=>none
def aJW(x y:Option AV):Option AV->Option AV
 |some (.sc (.bool t))=>(match t with | true=>x | false=>y)
 |_=>none
def auC(s:AS):Option AV->Option AR
 |some z=>some (.val (.ptr s.nx 0) (s.new (.cells (cellsOf z))))
 |none=>none
def ahC(s:AS):Option AV->Option AR
 |some z=>(match UZ z with | true=>none | false=>some (.val (.ptr s.nx 0) (s.new (.cells (cellsOf z)))))
 |none=>none
def acA(s:AS):Option AV->Option AR
 |some v=>(match notNil v with | true=>some (.val v s) | false=>none)
 |none=>none
def acY(t:TypeId)(s:AS)(v:Option AV):Option TypeDesc->Option AR
 |some d=>(match v with
  |some v=>(match isIface d with | true=>none | false=>some (.val (.ifc t v) s))
  |none=>none)
 |none=>none
def func1(f:Fn)(s:AS)(b:Option (List AV)):Option (List AV)->Option AR
 |some a=>(match b with|some b=>some (.val (.fn f a b) s)|none=>none)
 |none=>none
def awK(P:Program)(s:AS)(t:TypeId)(l h m:Option (Option AV)):Option AV->Option AR
 |some a=>(match l with
  |some l=>(match h with
   |some h=>(match m with|some m=>OB s (Nn P t a l h m)|none=>none)
   |none=>none)
  |none=>none)
 |none=>none
def aZI:Option AV->Option AR
 |some (.ifc t v)=>some (.pan (.ifc t v))
 |_=>none
def aVK(P:Program)(as:Option (List AV)):Option AV->Option AR
 |some (.fn (.func g) first caps)=>(match as with
  |some as=>(match N9 P g with | true=>some (.ent g (first++as++caps)) | false=>none)
  |none=>none)
 |_=>none
def aYN(P:Program)(G:AN)(fr:List AV)(s:AS):List Operand->List TypeId->Option AR
 |[x],[t]=>OB s (uX (AP G fr x) (aZ P s t))
 |_,_=>none
def aUL(P:Program)(G:AN)(fr:List AV)(s:AS):List Operand->List TypeId->Option AR
 |[x,y],[t,tx]=>anL (two (AP G fr x) (AP G fr y) (MG P s t tx))
 |_,_=>none
def aJY(P:Program)(s:AS)(f:List Value->Sem Value):Option (List Value)->Option AR
 |some vs=>OB s (ZZ P (f vs))
 |none=>none
def aJZ(P:Program)(s:AS)(f:Value->Sem Value):Option Value->Option AR
 |some v=>OB s (ZZ P (f v))
 |none=>none
def UH(P:Program)(G:AN)(fr:List AV)(s:AS)(o:Oper)(cl:Call):Builtin->Option AR
 |.len=>aYN P G fr s cl.args.toList cl.argTypes.toList
 |.append=>aUL P G fr s cl.args.toList cl.argTypes.toList
 |.max=>aJY P s (λvs=>btH cl.argTypes o.type vs.toArray) (uX (lS G fr cl.args.toList) Ry)
 |.min=>aJY P s (λvs=>btI cl.argTypes o.type vs.toArray) (uX (lS G fr cl.args.toList) Ry)
 |_=>none
def pX(P:Program)(G:AN)(fr:List AV)(s:AS)(o:Oper)(cl:Call):Option AR :=
 match cl.callee with|.builtin b=>UH P G fr s o cl b|.value f=>aVK P (lS G fr cl.args.toList) (AP G fr f)|_=>none
def xW(s:AS):Option Operand->Option AR
 |none=>some (.val (.mp s.nx) (s.new (.map [] 0)))
 |some _=>none
def XQ(P:Program)(G:AN)(fr:List AV)(s:AS)(o:Oper):Option AR :=
 match o.op with|.move x=>OB s (AP G fr x)|.assign x=>OB s (AP G fr x)|.pick c a b=>OB s (aJW (AP G fr a) (AP G fr b) (AP G fr c))|.alloc e=>auC s (N6 P e)|.box _ x=>ahC s (AP G fr x)|.build t ps=>OB s (uX (NL G fr ps.toList) (fC P t))|.buildSlice t n ps=>OB s (uX (NL G fr ps.toList) (N4 P t n))|.load t a=>OB s (uX (AP G fr a) (J9 P s t))|.store t a x=>aaY (two (AP G fr a) (AP G fr x) (Lf P s t))|.nilCheck x=>acA s (AP G fr x)|.binOp op t x y _=>OB s (two (AP G fr x) (AP G fr y) (fB P op t x y))|.unOp op _ x=>aJZ P s (btN op) (uX (AP G fr x) kF)|.convert src dst x=>OB s (uX (AP G fr x) (ZY P src dst))|.makeInterface t x=>acY t s (AP G fr x) (P.underlying t)|.makeFunc f first caps=>func1 f s (lS G fr caps.toList) (lS G fr first.toList)|.makeMap _ r=>xW s r|.makeSlice t l c=>anL (two (AP G fr l) (AP G fr c) (Km P s t))|.slice t x lo hi mx=>awK P s t (uZ G fr lo) (uZ G fr hi) (uZ G fr mx) (AP G fr x)|.fieldAddr t x k=>OB s (uX (AP G fr x) λa=>UA P t a k)|.field t x k=>OB s (uX (AP G fr x) λa=>fF P t a k)|.indexAddr t x i=>OB s (two (AP G fr x) (AP G fr i) (CQ P t))|.index t x i=>OB s (two (AP G fr x) (AP G fr i) (cT P t))|.lookup t x k ok=>OB s (two (AP G fr x) (AP G fr k) λa b=>Ka P s t a b ok)|.mapUpdate t m k x=>aaY (three (AP G fr m) (AP G fr k) (AP G fr x) (LW P s t))|.insert t m k x=>aaY (three (AP G fr m) (AP G fr k) (AP G fr x) (LW P s t))|.mapEntry t m k=>anL (two (AP G fr m) (AP G fr k) (Si P s t))|.entryStore _ m st x=>aaY (three (AP G fr m) (AP G fr st) (AP G fr x) (N5 s))|.extract x k=>OB s (uX (AP G fr x) λa=>Uz a k)|.call cl=>pX P G fr s o cl|.panic x=>aZI (AP G fr x)|_=>none
def akE(P:Program)(G:AN)(fr:List AV)(s:AS)(o:Oper)(cl:Call):pX P G fr s o cl=Wc P G fr s o cl:=by
 unfold pX Wc;cases hc:cl.callee with
 |value f=>
  simp only[CE];cases AY G fr f with
  |none=>rfl
  |some v=>
   cases v with
   |fn g a b=>
    cases g with
    |func g=>
     cases lS G fr cl.args.toList with
     |none=>rfl
     |some as=>
      simp only[aVK];cases N9 P g<;>rfl
    |_=>rfl
   |_=>rfl
 |invoke r m=>rfl
 |builtin b=>
  cases b<;>try rfl
  ·simp only[UH]
   cases hx:cl.args.toList with
   |nil=>rfl
   |cons x xs=>
    cases xs with
    |nil=>rfl
    |cons y ys=>
     cases ys with
     |cons z zs=>rfl
     |nil=>
      cases ht:cl.argTypes.toList with
      |nil=>rfl
      |cons t ts=>
       cases ts with
       |nil=>rfl
       |cons u us=>
        cases us with
        |cons v vs=>rfl
        |nil=>
         simp only[aUL,CE];cases AY G fr x<;>cases AY G fr y<;>first | rfl | exact aiU _
  ·simp only[UH]
   cases hx:cl.args.toList with
   |nil=>rfl
   |cons x xs=>
    cases xs with
    |cons y ys=>rfl
    |nil=>
     cases ht:cl.argTypes.toList with
     |nil=>rfl
     |cons t ts=>
      cases ts with|cons u us=>rfl|nil=>simp only[aYN,CE,qJ];exact VK _ _
  simp only[UH,qJ];cases (lS G fr cl.args.toList).bind Ry with|none=>rfl|some vs=>exact VK _ _
  simp only[UH,qJ];cases (lS G fr cl.args.toList).bind Ry with|none=>rfl|some vs=>exact VK _ _
def Pk(P:Program)(G:AN)(fr:List AV)(s:AS)(o:Oper):XQ P G fr s o=SR P G fr s o:=by
 unfold XQ SR;cases ho:o.op<;>simp only[CE,VK,aGD,aiU,qJ,akE]
 case pick c a b=>
  cases AY G fr c with
  |none=>rfl
  |some v=>
   cases v with
   |sc u=>cases u<;>first | rfl | (rename_i t;cases t<;>rfl)
   |_=>rfl
 case alloc e=>cases N6 P e<;>rfl
 case box e x=>
  cases AY G fr x with|none=>rfl|some v=>cases v<;>rfl
 case store t a x=>cases AY G fr a<;>cases AY G fr x<;>rfl
 case nilCheck x=>
  cases AY G fr x with|none=>rfl|some v=>simp only[acA];cases notNil v<;>rfl
 case binOp op t x y z=>cases AY G fr x<;>cases AY G fr y<;>first | rfl | (simp only[two,Uy])
 case unOp op t x=>cases (AY G fr x).bind kF with|none=>rfl|some v=>exact VK _ _
 case makeInterface t x=>
  cases AY G fr x with
  |none=>cases P.underlying t<;>rfl
  |some v=>
   cases P.underlying t with|none=>rfl|some d=>simp only[acY];cases isIface d<;>rfl
 case makeFunc f a b=>cases lS G fr a.toList<;>cases lS G fr b.toList<;>rfl
 case makeMap t r=>cases r<;>rfl
 case makeSlice t l c=>cases AY G fr l<;>cases AY G fr c<;>rfl
 case slice t x lo hi mx=>
  cases AY G fr x<;>cases uZ G fr lo<;>cases uZ G fr hi<;>cases uZ G fr mx<;>first | rfl | exact VK _ _
 case indexAddr t x i=>cases AY G fr x<;>cases AY G fr i<;>rfl
 case index t x i=>cases AY G fr x<;>cases AY G fr i<;>first | rfl | (simp only[two,abQ])
 case lookup t x k ok=>cases AY G fr x<;>cases AY G fr k<;>rfl
 case mapUpdate t m k x=>cases AY G fr m<;>cases AY G fr k<;>cases AY G fr x<;>rfl
 case insert t m k x=>cases AY G fr m<;>cases AY G fr k<;>cases AY G fr x<;>rfl
 case mapEntry t m k=>cases AY G fr m<;>cases AY G fr k<;>rfl
 case entryStore t m k x=>cases AY G fr m<;>cases AY G fr k<;>cases AY G fr x<;>rfl
 case panic x=>
  cases AY G fr x with|none=>rfl|some v=>cases v<;>rfl
end AI
namespace AI
open Go Go.RowKit
abbrev Rec:=Tk->Option Rs
def baE(r:Rec)(y:Code):Option Rs->Option Rs
 |some (.code e fr s)=>(match e with|.normal=>r (.code y fr s)|e=>some (.code e fr s))
 |_=>none
def aIG(r:Rec)(x y:Code)(fr:List AV)(s:AS):Option AV->Option Rs
 |some (.sc (.bool t))=>(match t with|true=>r (.code x fr s)|false=>r (.code y fr s))
 |_=>none
def aoS(id:Nat):Option Rs->Option Rs
 |some (.code e fr s)=>some (.code (GU id e) fr s)
 |_=>none
def apR:Option Rs->Option Rs
 |some (.code e fr s)=>some (.code e fr s)
 |_=>none
def aVJ(P:Program)(G:AN)(ops:Array Oper)(q:Nat)(rs:List Ay):Option Rs->Option Rs
 |some (.tr t fr s)=>(match aSA P G ops t s q rs with|true=>some (.code .normal fr s)|false=>none)
 |_=>none
def aXH(P:Program)(G:AN)(r:Rec)(ops:Array Oper)(fr:List AV)(s:AS):Option (List Ay)->Option Rs
 |some rs=>aVJ P G ops s.nx rs (r (.draw ops ops.toList fr (s.hold rs) s.nx))
 |none=>none
def aVI(P:Program)(G:AN)(r:Rec)(ops:Array Oper)(fr:List AV)(s:AS):Bool->Option Rs
 |true=>aXH P G r ops fr s (rsv P ops.toList)
 |false=>none
def ahQ(P:Program)(G:AN)(r:Rec)(ops:Array Oper)(fr:List AV)(s:AS):Bool->Option Rs
 |false=>apR (r (.ops ops ops.toList fr s))
 |true=>aVI P G r ops fr s (Oh ops)
def awQ(P:Program)(G:AN)(r:Rec)(fr:List AV)(s:AS):Code->Option Rs
 |.skip=>some (.code .normal fr s)
 |.exit id=>some (.code (.exit id) fr s)
 |.ret=>some (.code .ret fr s)
 |.seq x y=>baE r y (r (.code x fr s))
 |.cond q x y=>aIG r x y fr s (AP G fr q)
 |.block id c=>aoS id (r (.code c fr s))
 |.loop c=>apR (r (.loop c fr s))
 |.region _ ops d=>ahQ P G r ops fr s d
 |_=>none
def aJL(r:Rec)(c:Code):Option Rs->Option Rs
 |some (.code e fr s)=>(match e with|.normal=>r (.loop c fr s)|e=>some (.code e fr s))
 |_=>none
def bfN(r:Rec)(ops:Array Oper)(dst:Option Tmp)(l:List Oper)(fr:List AV):Option Rs->Option Rs
 |some (.call c s)=>(match c with|.ret v=>r (.ops ops l (JB fr dst v) s)|.pan v=>some (.code (.pan v) fr s))
 |_=>none
def aEO(r:Rec)(ops:Array Oper)(fr:List AV)(s:AS):List Oper->Option Rs
 |[]=>some (.code .normal fr s)
 |o::l=>bfN r ops o.dst l fr (r (.op ops o fr s))
def trK(fr:List AV)(s:AS)(v:AV):Option Rs->Option Rs
 |some (.tr t YV s2)=>some (.tr ((fr,s,v)::t) YV s2)
 |_=>none
def aSN(r:Rec)(ops:Array Oper)(dst:Option Tmp)(l:List Oper)(fr:List AV)(s:AS)(q:Nat):Option Rs->Option Rs
 |some (.call (.ret v) s1)=>trK fr s v (r (.draw ops l (JB fr dst v) s1 q))
 |_=>none
def aMF(r:Rec)(ops:Array Oper)(o:Oper)(l:List Oper)(fr:List AV)(s:AS)(q:Nat)(v:AV):Option Rs:=trK fr s v (r (.draw ops l (JB fr o.dst v) s (q+1)))
def aSM(r:Rec)(ops:Array Oper)(o:Oper)(l:List Oper)(fr:List AV)(s:AS)(q:Nat):Bool->Option Rs
 |true=>aMF r ops o l fr s q (RA ops fr o q)
 |false=>aSN r ops o.dst l fr s q (r (.op ops o fr s))
def aaN(r:Rec)(ops:Array Oper)(fr:List AV)(s:AS)(q:Nat):List Oper->Option Rs
 |[]=>some (.tr [] fr s)
 |o::l=>aSM r ops o l fr s q (BX o.op)
def aUT:Option Rs->Option Rs
 |some (.call c s)=>some (.call c s)
 |_=>none
def opK(r:Rec)(s:AS):Option AR->Option Rs
 |some (.val v s1)=>some (.call (.ret v) s1)
 |some (.pan v)=>some (.call (.pan v) s)
 |some (.ent f args)=>aUT (r (.call f args s))
 |none=>none
def aqW(ops:Array Oper)(fr:List AV):Option (Nat×Bool)->Bool
 |none=>true
 |some p=>(match (ops[p.1]?).bind (·.dst) with
  |some d=>(match nth fr d with|.sc (.bool b)=>b == p.2|_=>false)
  |none=>false)
def aSB(P:Program)(G:AN)(r:Rec)(fr:List AV)(s:AS)(o:Oper):Bool->Option Rs
 |true=>opK r s (XQ P G fr s o)
 |false=>some (.call (.ret (.sc undef)) s)
def aXJ(k:CR->Option CR):Option Rs->Option Rs
 |some (.call c s)=>(match k c with|some c1=>some (.call c1 s)|none=>none)
 |_=>none
def aZS(s:AS)(n:Nat):Option AV->Option Rs
 |some v=>some (.call (.ret v) (fin v s n))
 |none=>none
def aUR(P:Program)(fn:Func)(n:Nat):Option Rs->Option Rs
 |some (.code e fr s)=>(match e with|.normal=>aZS s n (Gy P s fn fr)|.ret=>aZS s n (Gy P s fn fr)|.pan v=>some (.call (.pan v) (s.cut n))|.exit _=>none)
 |_=>none
def aUQ(P:Program)(r:Rec)(fn:Func)(args:List AV)(s:AS):Option Code->Option Rs
 |some c=>aUR P fn s.nx (r (.code c (args++bjS (fn.ntmps - args.length) (.sc undef)) s))
 |none=>none
def fnC(P:Program)(r:Rec)(args:List AV)(s:AS):Option Func->Option Rs
 |some fn=>aUQ P r fn args s fn.body
 |none=>none
def aXI(P:Program)(r:Rec)(f:FuncId)(args:List AV)(s:AS):Option (FuncId×List AV×(CR->Option CR))->Option Rs
 |some (g,gJ,k)=>aXJ k (r (.call g gJ s))
 |none=>fnC P r args s P.funcs[f]?
def aVU(P:Program)(H:VM)(r:Rec)(f:FuncId)(args:List AV)(s:AS):Option (CR×AS)->Option Rs
 |some (c,s1)=>some (.call c s1)
 |none=>aXI P r f args s (H f args)
def step(P:Program)(G:AN)(X:aHP)(H:VM)(r:Rec):Tk->Option Rs
 |.code c fr s=>awQ P G r fr s c
 |.loop c fr s=>aJL r c (r (.code c fr s))
 |.ops ops l fr s=>aEO r ops fr s l
 |.draw ops l fr s q=>aaN r ops fr s q l
 |.op ops o fr s=>aSB P G r fr s o (aqW ops fr o.guard)
 |.call f args s=>aVU P H r f args s (X f args s)
end AI
namespace AI
open Go Go.RowKit
def bfK(l:List AV):Nat->AV:=btO (motive:=λ_=>Nat->AV) (λ_=>.sc undef) (λa _ ih n=>Nat.rec (motive:=λ_=>AV) a (λk _=>ih k) n) l
def bfW(v:AV)(l:List AV):Nat->List AV:=btO (motive:=λ_=>Nat->List AV) (λ_=>[]) (λa t ih n=>Nat.rec (motive:=λ_=>List AV) (v::t) (λk _=>a::ih k) n) l
def aUM(fr:List AV)(dst:Option Tmp)(v:AV):List AV:=bsQ (motive:=λ_=>List AV) fr (λd=>bfW v fr d) dst
abbrev Sm:=Program->AN->List AV->AS->Oper->Option AR
def aNI(t:Tmp)(_:AN)(fr:List AV):Option AV:=some (bfK fr t)
def aAH(v:Value)(_:AN)(_:List AV):Option AV:=aG v
def aNH(g:Nat)(G:AN)(_:List AV):Option AV:=evG (G g)
def bbX(f:FuncId)(_:AN)(_:List AV):Option AV:=some (.fn (.func f) [] [])
def evR(x:Operand):AN->List AV->Option AV:=Operand.rec (motive:=λ_=>AN->List AV->Option AV) aNI aAH aNH bbX x
def sV{α β:Type}(o:Option α)(f:α->Option β):Option β:=bsQ (motive:=λ_=>Option β) none f o
def aYQ(s:AS)(v:AV):Option AR:=some (.val v s)
def anM(s:AS)(o:Option AV):Option AR:=sV o (aYQ s)
def ahZ(x:Operand):Sm:=λ_ G fr s _=>anM s (evR x G fr)
def aEF(c a b:Operand):Sm:=λ_ G fr s _=>OB s (aJW (AP G fr a) (AP G fr b) (AP G fr c))
def avW(e:TypeId):Sm:=λP _ _ s _=>auC s (N6 P e)
def aRP(_:TypeId)(x:Operand):Sm:=λ_ G fr s _=>ahC s (AP G fr x)
def avX(t:TypeId)(ps:Array (Nat×Operand)):Sm:=λP G fr s _=>OB s (uX (NL G fr ps.toList) (fC P t))
def mJ(t:TypeId)(n:Nat)(ps:Array (Nat×Operand)):Sm:=λP G fr s _=>OB s (uX (NL G fr ps.toList) (N4 P t n))
def aED(t:TypeId)(a:Operand):Sm:=λP G fr s _=>anM s (sV (evR a G fr) (J9 P s t))
def awF(t:TypeId)(a x:Operand):Sm:=λP G fr s _=>aaY (two (AP G fr a) (AP G fr x) (Lf P s t))
def aRR(x:Operand):Sm:=λ_ G fr s _=>acA s (AP G fr x)
def aRO(op:BinOp)(t:TypeId)(x y:Operand)(_:TypeId):Sm:=λP G fr s _=>anM s (sV (evR x G fr) (λa=>sV (evR y G fr) (λb=>fB P op t x y a b)))
def baC(op:UnOp)(_:TypeId)(x:Operand):Sm:=λP G fr s _=>aJZ P s (btN op) (uX (AP G fr x) kF)
def aEB(src dst:TypeId)(x:Operand):Sm:=λP G fr s _=>OB s (uX (AP G fr x) (ZY P src dst))
def awA(t:TypeId)(x:Operand):Sm:=λP G fr s _=>acY t s (AP G fr x) (P.underlying t)
def aEC(f:Fn)(first caps:Array Operand):Sm:=λ_ G fr s _=>func1 f s (lS G fr caps.toList) (lS G fr first.toList)
def aRQ(_:TypeId)(r:Option Operand):Sm:=λ_ _ _ s _=>xW s r
def aEE(t:TypeId)(l c:Operand):Sm:=λP G fr s _=>anL (two (AP G fr l) (AP G fr c) (Km P s t))
def awE(t:TypeId)(x:Operand)(lo hi mx:Option Operand):Sm:=λP G fr s _=>awK P s t (uZ G fr lo) (uZ G fr hi) (uZ G fr mx) (AP G fr x)
def amO(t:TypeId)(x:Operand)(k:Nat):Sm:=λP G fr s _=>anM s (sV (evR x G fr) λa=>UA P t a k)
def avZ(t:TypeId)(x:Operand)(k:Nat):Sm:=λP G fr s _=>OB s (uX (AP G fr x) λa=>fF P t a k)
def amP(t:TypeId)(x i:Operand):Sm:=λP G fr s _=>anM s (sV (evR x G fr) (λa=>sV (evR i G fr) (λb=>CQ P t a b)))
def awB(t:TypeId)(x i:Operand):Sm:=λP G fr s _=>anM s (sV (evR x G fr) (λa=>sV (evR i G fr) (λb=>cT P t a b)))
def amQ(t:TypeId)(x k:Operand)(ok:Bool):Sm:=λP G fr s _=>OB s (two (AP G fr x) (AP G fr k) λa b=>Ka P s t a b ok)
def awD(t:TypeId)(m k x:Operand):Sm:=λP G fr s _=>aaY (three (AP G fr m) (AP G fr k) (AP G fr x) (LW P s t))
def avY(t:TypeId)(m k:Operand):Sm:=λP G fr s _=>anL (two (AP G fr m) (AP G fr k) (Si P s t))
def amN(_:TypeId)(m st x:Operand):Sm:=λ_ G fr s _=>aaY (three (AP G fr m) (AP G fr st) (AP G fr x) (N5 s))
def aeL(x:Operand)(k:Nat):Sm:=λ_ G fr s _=>OB s (uX (AP G fr x) λa=>Uz a k)
def aEA(cl:Call):Sm:=λP G fr s o=>pX P G fr s o cl
def awC(x:Operand):Sm:=λ_ G fr _ _=>aZI (AP G fr x)
def baB:Sm:=λ_ _ _ _ _=>none
def aZC(op:Op):Sm:=match op with|.move x=>ahZ x|.assign x=>ahZ x|.pick c a b=>aEF c a b|.alloc e=>avW e|.box e x=>aRP e x|.build t ps=>avX t ps|.buildSlice t n ps=>mJ t n ps|.load t a=>aED t a|.store t a x=>awF t a x|.nilCheck x=>aRR x|.binOp op t x y z=>aRO op t x y z|.unOp op t x=>baC op t x|.convert a b x=>aEB a b x|.makeInterface t x=>awA t x|.makeFunc f a b=>aEC f a b|.makeMap t r=>aRQ t r|.makeSlice t l c=>aEE t l c|.slice t x lo hi mx=>awE t x lo hi mx|.fieldAddr t x k=>amO t x k|.field t x k=>avZ t x k|.indexAddr t x i=>amP t x i|.index t x i=>awB t x i|.lookup t x k ok=>amQ t x k ok|.mapUpdate t m k x=>awD t m k x|.insert t m k x=>awD t m k x|.mapEntry t m k=>avY t m k|.entryStore t m st x=>amN t m st x|.extract x k=>aeL x k|.call cl=>aEA cl|.panic x=>awC x|_=>baB
def aqX(ops:Array Oper)(fr:List AV)(g:Option (Nat×Bool)):Bool:=bsQ (motive:=λ_=>Bool) true (λp=>aqW ops fr (some p)) g
def aZE(r:Rec)(ops:Array Oper)(dst:Option Tmp)(l:List Oper)(fr:List AV):Option Rs->Option Rs
 |some (.call c s)=>(match c with|.ret v=>r (.ops ops l (aUM fr dst v) s)|.pan v=>some (.code (.pan v) fr s))
 |_=>none
def aiD(P:Program)(G:AN)(r:Rec)(fr:List AV)(s:AS)(o:Oper)(b:Bool):Option Rs:=Bool.rec (motive:=λ_=>Option Rs) (some (.call (.ret (.sc undef)) s)) (opK r s (aZC o.op P G fr s o)) b
def awR(P:Program)(G:AN)(r:Rec)(ops:Array Oper)(fr:List AV)(s:AS)(l:List Oper):Option Rs:=btO (motive:=λ_=>Option Rs) (some (.code .normal fr s)) (λo l _=>aZE r ops o.dst l fr (aiD P G r fr s o (aqX ops fr o.guard))) l
abbrev Ss:=Program->AN->Rec->List AV->AS->Option Rs
def aRZ:Ss:=λ_ _ _ fr s=>some (.code .normal fr s)
def aRX(id:Nat):Ss:=λ_ _ _ fr s=>some (.code (.exit id) fr s)
def baF:Ss:=λ_ _ _ fr s=>some (.code .ret fr s)
def baG(x y:Code):Ss:=λ_ _ r fr s=>baE r y (r (.code x fr s))
def aRW(q:Operand)(x y:Code):Ss:=λ_ G r fr s=>aIG r x y fr s (AP G fr q)
def aEM(id:Nat)(c:Code):Ss:=λ_ _ r fr s=>aoS id (r (.code c fr s))
def aRY(c:Code):Ss:=λ_ _ r fr s=>apR (r (.loop c fr s))
def awO(_:Nat)(ops:Array Oper)(d:Bool):Ss:=λP G r fr s=>ahQ P G r ops fr s d
def bfX:Ss:=λ_ _ _ _ _=>none
def aAE(c:Code):Ss:=match c with|.skip=>aRZ|.exit id=>aRX id|.ret=>baF|.seq x y=>baG x y|.cond q x y=>aRW q x y|.block id c=>aEM id c|.loop c=>aRY c|.region id ops d=>awO id ops d|_=>bfX
def aM(P:Program)(G:AN)(X:aHP)(H:VM)(r:Rec):Tk->Option Rs
 |.code c fr s=>aAE c P G r fr s
 |.loop c fr s=>aJL r c (r (.code c fr s))
 |.ops ops l fr s=>awR P G r ops fr s l
 |.draw ops l fr s q=>aaN r ops fr s q l
 |.op ops o fr s=>aiD P G r fr s o (aqX ops fr o.guard)
 |.call f args s=>aVU P H r f args s (X f args s)
end AI
namespace AI
open Go Go.RowKit
mutual
def plain:AV->Bool
 |.sc _=>true
 |.agg cs=>BC cs
 |.Gx cs=>BC cs
 |.sl o _ cs=>(match o with | .row _ _=>false | _=>true)&&BC cs
 |.ifc _ v=>plain v
 |.el cs=>BC cs
 |.fn _ a b=>BC a&&BC b
 |.any=>true
 |_=>false
def BC:List AV->Bool
 |[]=>true
 |a::l=>plain a&&BC l
end
section
variable {c c':Cx}{w w':World}
mutual
def Rp.plain(hv:∀g i v,MD c w g i v->MD c' w' g i v):∀{a:AV}{v:Value},AI.plain a=true->Rp c w a v->Rp c' w' a v:=by
 intro a v hp h;cases h with
 |sc h1=>exact .sc h1
 |agg h1=>exact .agg (Cw.plain hv hp h1)
 |Gx h1=>exact .Gx (Cw.plain hv hp h1)
 |@sl0 own A cap h1=>
  simp only[AI.plain,bhB] at hp;cases own with|full=>exact .sl0 h1|nil=>exact .sl0 h1|nn=>exact .sl0 h1|lost=>exact .sl0 h1|row r sz=>cases hp.1
 |@Lt own n cap g o cs hn h1 ho=>
  simp only[AI.plain,bhB] at hp;refine .Lt hn (A0.plain hv hp.2 h1) ?_;cases own with|full=>exact ho|nil=>exact ho|nn=>exact ho|lost=>trivial|row r sz=>cases hp.1
 |Im hn h1=>cases hp
 |el h1=>exact .el (A0.plain hv hp h1)
 |ptr h1=>cases hp
 |fn h1 h2=>
  simp only[AI.plain,bhB] at hp;exact .fn (Cw.plain hv hp.1 h1) (Cw.plain hv hp.2 h2)
 |ifc h1=>exact .ifc (Rp.plain hv hp h1)
 |mp h1=>cases hp
 |any h1=>exact .any h1
 |raw=>first | (cases hp;done) | exact .raw
def Cw.plain(hv:∀g i v,MD c w g i v->MD c' w' g i v):∀{a:List AV}{v:List Value},AI.BC a=true->Cw c w a v->Cw c' w' a v:=by
 intro a v hp h;cases h with
 |nil=>exact .nil
 |cons h1 t=>
  simp only[AI.BC,bhB] at hp;exact .cons (Rp.plain hv hp.1 h1) (Cw.plain hv hp.2 t)
def A0.plain(hv:∀g i v,MD c w g i v->MD c' w' g i v):∀{a:List AV}{g o:Nat},AI.BC a=true->A0 c w g o a->A0 c' w' g o a:=by
 intro a g o hp h;cases h with
 |nil=>exact .nil
 |cons hvv h1 t=>
  simp only[AI.BC,bhB] at hp;exact .cons (hv _ _ _ hvv) (Rp.plain hv hp.1 h1) (A0.plain hv hp.2 t)
end
end
def s0:AS:=⟨[],0,[],0⟩
end AI
namespace AI
open Go Go.RowKit
mutual
def under(n m:Nat):AV->Bool
 |.sc _=>true
 |.agg cs=>G6 n m cs
 |.Gx cs=>G6 n m cs
 |.sl o _ cs=>(match o with | .row r _=>decide (r < m) | _=>true)&&G6 n m cs
 |.Im id _ _=>decide (id < n)
 |.el cs=>G6 n m cs
 |.ptr id _=>decide (id < n)
 |.fn _ a b=>G6 n m a&&G6 n m b
 |.ifc _ v=>under n m v
 |.mp id=>decide (id < n)
 |.any=>true
 |.raw _ _ _=>true
def G6(n m:Nat):List AV->Bool
 |[]=>true
 |a::l=>under n m a&&G6 n m l
end
mutual
def Vp(n m:Nat):∀{a:AV},plain a=true->under n m a=true
 |.sc _,_=>rfl
 |.agg cs,h=>by simp only[plain] at h;simp only[under];exact E5 n m h
 |.Gx cs,h=>by simp only[plain] at h;simp only[under];exact E5 n m h
 |.sl o k cs,h=>by
  simp only[plain,bhB] at h;simp only[under,bhB];refine⟨?_,E5 n m h.2⟩;cases o with|row r sz=>cases h.1|_=>rfl
 |.Im _ _ _,h=>by cases h
 |.el cs,h=>by simp only[plain] at h;simp only[under];exact E5 n m h
 |.ptr _ _,h=>by cases h
 |.fn _ a b,h=>by
  simp only[plain,bhB] at h;simp only[under,bhB];exact⟨E5 n m h.1,E5 n m h.2⟩
 |.ifc _ v,h=>by simp only[plain] at h;simp only[under];exact Vp n m h
 |.mp _,h=>by cases h
 |.any,_=>rfl
 |.raw _ _ _,_=>rfl
def E5(n m:Nat):∀{l:List AV},BC l=true->G6 n m l=true
 |[],_=>rfl
 |a::l,h=>by
  simp only[BC,bhB] at h;simp only[G6,bhB];exact⟨Vp n m h.1,E5 n m h.2⟩
end
def Cx.upto(c:Cx)(n m:Nat):Cx:=⟨c.base,c.Ce.take n,c.rows.take m,c.bad⟩
def EZ{α:Type}{l:List α}{n i:Nat}{x:α}(h:(l.take n)[i]?=some x):l[i]?=some x/\i < n:=by rw[bkY] at h;split at h;rename_i hi;exact⟨h,hi⟩;cases h
def TP{α:Type}{l:List α}{n i:Nat}{x:α}(h:l[i]?=some x)(hi:i < n):(l.take n)[i]?=some x:=by rw[bkY,if_pos hi];exact h
section
variable {c:Cx}{w:World}{n m:Nat}
def awH{g i:Nat}(h:(c.upto n m).jX g i):c.jX g i:=by
 rcases h with h | ⟨r,n,cap,sz,hr,h⟩ | h
 exact .inl (bjV h);exact .inr (.inl ⟨r,n,cap,sz,(EZ hr).1,h⟩);exact .inr (.inr h)
def YN{g i:Nat}{v:Value}(h:MD c w g i v):MD (c.upto n m) w g i v:=⟨h.1,λhs=>h.2.1 (awH hs),h.2.2⟩
mutual
def Rp.upto:∀{a:AV}{v:Value},under n m a=true->Rp c w a v->Rp (c.upto n m) w a v:=by
 intro a v hp h;cases h with
 |sc h1=>exact .sc h1
 |agg h1=>exact .agg (Cw.upto hp h1)
 |Gx h1=>exact .Gx (Cw.upto hp h1)
 |@sl0 own A cap h1=>
  simp only[AI.under,bhB] at hp;cases own with
  |full=>exact .sl0 h1
  |nil=>exact .sl0 h1
  |nn=>exact .sl0 h1
  |lost=>exact .sl0 trivial
  |row r sz=>
   have hr:r < m:=of_decide_eq_true hp.1;refine .sl0 ⟨h1.1,?_⟩;have:=h1.2;simp only[Cx.upto,biM];omega
 |@Lt own k cap g o cs hn h1 ho=>
  simp only[AI.under,bhB] at hp;refine .Lt hn (A0.upto hp.2 h1) ?_;cases own with
  |full=>exact ho
  |nil=>exact ho
  |nn=>exact ho
  |lost=>trivial
  |row r sz=>
   have hr:r < m:=of_decide_eq_true hp.1;refine⟨ho.1,ho.2.1,?_,λe=>ho.2.2.2.1 (EZ e).1,λg' n' c' s' e=>ho.2.2.2.2 g' n' c' s' (EZ e).1⟩;have:=ho.2.2.1;simp only[Cx.upto,biM];omega
 |Im hn h1=>exact .Im hn (TP h1 (of_decide_eq_true hp))
 |el h1=>exact .el (A0.upto hp h1)
 |ptr h1=>exact .ptr (TP h1 (of_decide_eq_true hp))
 |fn h1 h2=>
  simp only[AI.under,bhB] at hp;exact .fn (Cw.upto hp.1 h1) (Cw.upto hp.2 h2)
 |ifc h1=>exact .ifc (Rp.upto hp h1)
 |mp h1=>exact .mp (TP h1 (of_decide_eq_true hp))
 |any h1=>exact .any h1
 |raw=>exact .raw
def Cw.upto:∀{a:List AV}{v:List Value},G6 n m a=true->Cw c w a v->Cw (c.upto n m) w a v:=by
 intro a v hp h;cases h with
 |nil=>exact .nil
 |cons h1 t=>
  simp only[AI.G6,bhB] at hp;exact .cons (Rp.upto hp.1 h1) (Cw.upto hp.2 t)
def A0.upto:∀{a:List AV}{g o:Nat},G6 n m a=true->A0 c w g o a->A0 (c.upto n m) w g o a:=by
 intro a g o hp h;cases h with
 |nil=>exact .nil
 |cons hvv h1 t=>
  simp only[AI.G6,bhB] at hp;exact .cons (YN hvv) (Rp.upto hp.1 h1) (A0.upto hp.2 t)
end
end
def cX:AV->Bool
 |.sc v=>cV v
 |_=>true
def fU{c:Cx}{w:World}{a:AV}{v:Value}(h:Rp c w a v)(hd:cX a=true):cV v=true:=by cases h<;>first | rfl | exact hd | assumption | (cases hd;done)
def aeX:AV->AV
 |.sl _ n cs=>.sl .lost n cs
 |a=>a
def dY(n m:Nat):List (Value×AV×Nat)->Bool
 |[]=>true
 |e::l=>under n m e.2.1&&dY n m l
def ayC(n m:Nat):Ay->Bool
 |.cells cs=>G6 n m cs
 |.map es _=>dY n m es
 |.bD _ id cs=>decide (id < n)&&G6 n m cs
def Nc.upto{c:Cx}{w:World}{n m:Nat}:∀{es:List (Value×AV×Nat)}{fs:List MapEntry},dY n m es=true->Nc c w es fs->Nc (c.upto n m) w es fs:=by
 intro es
 induction es with
 |nil=>intro fs _ h;cases h;exact .nil
 |cons e es ih=>
  intro fs hu h;obtain⟨x,a,b⟩:=e;simp only[dY,bhB] at hu;cases h with | cons h1 t=>exact .cons (h1.upto hu.1) (ih hu.2 t)
def Fc.upto{c:Cx}{w:World}{n m:Nat}{b:Ay}{o:Obj}(hb:ayC n m b=true)(h:Fc c w b o):Fc (c.upto n m) w b o:=by
 cases h with
 |FA ext h1=>exact .FA ext (h1.upto hb)
 |map h1=>exact .map (h1.upto hb)
 |@bD cs vs T id p hp h1=>
  have hb:=Bool.and_eq_true_iff.1 (show(decide (id < n)&&G6 n m cs)=true from hb);exact .bD (hp.imp _root_.id λk=>k.upto (a:=.ptr id 0) hb.1) (h1.upto hb.2)
def Fits(n m:Nat)(a b:AV):Prop:=∀(c:Cx)(w:World)(v:Value),Rp c w a v->Rp (c.upto n m) w b v
def Lw(n m:Nat)(a b:List AV):Prop:=∀(c:Cx)(w:World)(v:List Value),Cw c w a v->Cw (c.upto n m) w b v
def XN(n m:Nat)(a b:List AV):Prop:=∀(c:Cx)(w:World)(g o:Nat),A0 c w g o a->A0 (c.upto n m) w g o b
def Uw(n m:Nat)(a b:Ay):Prop:=∀(c:Cx)(w:World)(o:Obj),Fc c w a o->Fc (c.upto n m) w b o
def Fits.under{n m:Nat}{a:AV}(h:AI.under n m a=true):Fits n m a a:=λ_ _ _ hr=>hr.upto h
def Lw.under{n m:Nat}{a:List AV}(h:AI.G6 n m a=true):Lw n m a a:=λ_ _ _ hr=>hr.upto h
def XN.under{n m:Nat}{a:List AV}(h:AI.G6 n m a=true):XN n m a a:=λ_ _ _ _ hr=>hr.upto h
def Uw.under{n m:Nat}{b:Ay}(h:ayC n m b=true):Uw n m b b:=λ_ _ _ hr=>hr.upto h
def Fits.plain{n m:Nat}{a:AV}(h:AI.plain a=true):Fits n m a a:=.under (Vp n m h)
def Lw.plain{n m:Nat}{a:List AV}(h:BC a=true):Lw n m a a:=.under (E5 n m h)
def XN.plain{n m:Nat}{a:List AV}(h:BC a=true):XN n m a a:=.under (E5 n m h)
def Fits.sc{n m:Nat}{v:Value}:Fits n m (.sc v) (.sc v):=.under rfl
def Fits.drop{n m:Nat}{a:AV}(h:cX a=true):Fits n m a .any:=λ_ _ _ hr=>.any (fU hr h)
def Fits.agg{n m:Nat}{a b:List AV}(h:Lw n m a b):Fits n m (.agg a) (.agg b):=λ_ _ _ hr=>by cases hr with | agg h1=>exact .agg (h _ _ _ h1)
def Fits.Gx{n m:Nat}{a b:List AV}(h:Lw n m a b):Fits n m (.Gx a) (.Gx b):=λ_ _ _ hr=>by cases hr with | Gx h1=>exact .Gx (h _ _ _ h1)
def Lw.nil{n m:Nat}:Lw n m [] []:=λ_ _ _ hr=>by cases hr;exact .nil
def Lw.cons{n m:Nat}{a b:AV}{l k:List AV}(h:Fits n m a b)(t:Lw n m l k):Lw n m (a::l) (b::k):=λ_ _ _ hr=>by cases hr with | cons h1 t1=>exact .cons (h _ _ _ h1) (t _ _ _ t1)
def XN.nil{n m:Nat}:XN n m [] []:=λ_ _ _ _ hr=>by cases hr;exact .nil
def XN.cons{n m:Nat}{a b:AV}{l k:List AV}(h:Fits n m a b)(t:XN n m l k):XN n m (a::l) (b::k):=λ_ _ _ _ hr=>by cases hr with | cons hv h1 t1=>exact .cons (YN hv) (h _ _ _ h1) (t _ _ _ _ t1)
def Uw.cells{n m:Nat}{a b:List AV}(h:Lw n m a b):Uw n m (.cells a) (.cells b):=λ_ _ _ hr=>by cases hr with | FA ext h1=>exact .FA ext (h _ _ _ h1)
def aAO{G:AN}(hG:∀g cs,G g=some cs->BC cs=true){s s' s2:AS}{BM fr2:List AV}(hn:s2.nx=s.nx)(hr:s2.nr=s.nr)
   (hd:Ld s2.h s2.nx) (aOC:∀id b,look id s2.h=some b->∃b',look id s'.h=some b'/\Uw s.nx s.nr b' b) (hF:∀r n,DV r s2.F=some n->DV r s'.F=some n/\r < s.nr)
   (hf:Lw s.nx s.nr BM fr2) (cx:Cx) (w:World) (c':Cx) (w':World) (vs:List Value) (hx:Ext cx w c' w') (hs:St G cx w s) (hs':St G c' w' s') (Ob:Cw c' w' BM vs):
   ∃c2,Ext cx w c2 w'/\St G c2 w' s2/\Cw c2 w' fr2 vs:=by
 have RJ:c'.Ce.take s.nx=cx.Ce:=by obtain⟨t,ht⟩:=hx.Ce;rw[<- ht,hs.len,List.take_left]
 have xA:(c'.rows.take s.nr).length=cx.rows.length:=by have:=hx.Ia;rw[biM,hs.Ia];omega
 refine⟨c'.upto s.nx s.nr,⟨?_,?_,λr x dB h=>?_,λg i v hv=>YN (hx.cH g i v hv),hx.below,hx.base,hx.bad,λg hg=>hx.Yn g (bjV hg),λr g n cap sz h=>hx.Yx r g n cap sz (EZ h).1,hx.GY⟩,?_,hf _ _ _ Ob⟩;show cx.Ce <+: c'.Ce.take s.nx;rw[RJ];exact blK _;show cx.rows.length<=(c'.rows.take s.nr).length;omega;exact hx.rows r x dB (EZ h).1;refine⟨?_,hd,λi j g h1 h2=>hs'.nodup i j g (EZ h1).1 (EZ h2).1,λg hg=>hs'.low g (bjV hg),λid g b h1 h2=>?_,?_,λr g n cap sz h=>?_,λr n h=>?_,λg hg=>hs'.NA g (bjV hg),hs'.Ng,λr r' g n cap sz n' cap' OI h h'=>hs'.Ie r r' g n cap sz n' cap' OI (EZ h).1 (EZ h').1,λg cs hg=>(hs'.Nh g cs hg).upto (E5 _ _ (hG g cs hg)),hs'.Sa,hs'.ON.sub (λg hm=>bjV hm) λr g n cap sz e=>⟨r,n,cap,sz,(EZ e).1⟩⟩;show s2.nx=(c'.Ce.take s.nx).length;rw[RJ,hn,hs.len];obtain⟨b',h3,h4⟩:=aOC id b h2;obtain⟨o,ho,hb⟩:=hs'.box id g b' (EZ h1).1 h3;exact⟨o,ho,h4 _ _ _ hb⟩;show s2.nr=(c'.rows.take s.nr).length;rw[xA,hr,hs.Ia];obtain⟨a1,a2,a3,a4⟩:=hs'.row r g n cap sz (EZ h).1;exact⟨a1,a2,λhm=>a3 (bjV hm),a4⟩;obtain⟨h1,h2⟩:=hF r n h;rcases hs'.IZ r n h1 with ⟨h3,h4⟩ | ⟨g,cap,sz,h3⟩
 exact .inl ⟨TP h3 h2,h4⟩;exact .inr ⟨g,cap,sz,TP h3 h2⟩
end AI
namespace AI
open Go Go.RowKit
section
variable {P:Program}{G:AN}{X:YY}{H:VM}
def W(P:Program)(G:AN)(X:YY)(H:VM)(c:Code)(fr:List AV)(s:AS)(Q:AX->List AV->AS->Prop):Prop:=∃e BM s',J P G X H (.code c fr s e BM s')/\Q e BM s'
def WL(P:Program)(G:AN)(X:YY)(H:VM)(c:Code)(fr:List AV)(s:AS)(Q:AX->List AV->AS->Prop):Prop:=∃e BM s',J P G X H (.loop c fr s e BM s')/\Q e BM s'
def WC(P:Program)(G:AN)(X:YY)(H:VM)(f:FuncId)(args:List AV)(s:AS)(Q:CR->AS->Prop):Prop:=∃r s',J P G X H (.call f args s r s')/\Q r s'
def pA(P:Program)(G:AN)(X:YY)(H:VM)(y:Code)(Q:AX->List AV->AS->Prop):AX->List AV->AS->Prop
 |.normal,fr,s=>W P G X H y fr s Q
 |e,fr,s=>Q e fr s
def Fe(id:Nat)(Q:AX->List AV->AS->Prop):AX->List AV->AS->Prop:=λe fr s=>Q (GU id e) fr s
def aJM(P:Program)(G:AN)(X:YY)(H:VM)(c:Code)(Q:AX->List AV->AS->Prop):AX->List AV->AS->Prop
 |.normal,fr,s=>WL P G X H c fr s Q
 |e,fr,s=>Q e fr s
def N7(P:Program)(fn:Func)(n:Nat)(Q:CR->AS->Prop):AX->List AV->AS->Prop
 |.normal,fr,s=>∃v,Gy P s fn fr=some v/\Q (.ret v) (s.cut n)
 |.ret,fr,s=>∃v,Gy P s fn fr=some v/\Q (.ret v) (s.cut n)
 |.pan v,_,s=>Q (.pan v) (s.cut n)
 |_,_,_=>False
def aHT{x y:Code}{fr:List AV}{s:AS}{Q:AX->List AV->AS->Prop}(h:W P G X H x fr s (pA P G X H y Q)):W P G X H (.seq x y) fr s Q:=by
 obtain⟨e,YV,s1,h1,h2⟩:=h;cases e with
 |normal=>
  obtain⟨e2,fr2,s2,h3,h4⟩:=h2;exact⟨e2,fr2,s2,.seq h1 h3,h4⟩
 |exit id=>exact⟨_,_,_,.aeM h1 (by simp),h2⟩
 |ret=>exact⟨_,_,_,.aeM h1 (by simp),h2⟩
 |pan v=>exact⟨_,_,_,.aeM h1 (by simp),h2⟩
def azG{q:Operand}{x y:Code}{fr:List AV}{s:AS}{Q:AX->List AV->AS->Prop}(hq:AY G fr q=some (.sc (.bool true)))(h:W P G X H x fr s Q):W P G X H (.cond q x y) fr s Q:=by obtain⟨e,YV,s1,h1,h2⟩:=h;exact⟨e,YV,s1,.cond hq h1,h2⟩
def azF{q:Operand}{x y:Code}{fr:List AV}{s:AS}{Q:AX->List AV->AS->Prop}(hq:AY G fr q=some (.sc (.bool false)))(h:W P G X H y fr s Q):W P G X H (.cond q x y) fr s Q:=by obtain⟨e,YV,s1,h1,h2⟩:=h;exact⟨e,YV,s1,.cond hq h1,h2⟩
def cR{id:Nat}{c:Code}{fr:List AV}{s:AS}{Q:AX->List AV->AS->Prop}(h:W P G X H c fr s (Fe id Q)):W P G X H (.block id c) fr s Q:=by obtain⟨e,YV,s1,h1,h2⟩:=h;exact⟨_,YV,s1,.block h1,h2⟩
def aoF{c:Code}{fr:List AV}{s:AS}{Q:AX->List AV->AS->Prop}(h:WL P G X H c fr s Q):W P G X H (.loop c) fr s Q:=by obtain⟨e,YV,s1,h1,h2⟩:=h;exact⟨_,YV,s1,.loop h1,h2⟩
def afN{c:Code}{fr:List AV}{s:AS}{Q:AX->List AV->AS->Prop}(h:W P G X H c fr s (aJM P G X H c Q)):WL P G X H c fr s Q:=by
 obtain⟨e,YV,s1,h1,h2⟩:=h;cases e with
 |normal=>
  obtain⟨e2,fr2,s2,h3,h4⟩:=h2;exact⟨e2,fr2,s2,.atA h1 h3,h4⟩
 |exit id=>exact⟨_,_,_,.iP h1 (by simp),h2⟩
 |ret=>exact⟨_,_,_,.iP h1 (by simp),h2⟩
 |pan v=>exact⟨_,_,_,.iP h1 (by simp),h2⟩
def drop_cons{α:Type}{o:α}{l m:List α}{k:Nat}(h:o::l=m.drop k):m[k]?=some o/\l=m.drop (k+1):=by
 constructor;have:=congrArg (λx=>x[0]?) h;simpa using this.symm
 have:=congrArg List.tail h;rw[List.tail_drop] at this;exact this
def QZ{f:FuncId}{fn:Func}{c:Code}{args:List AV}{s:AS}{Q:CR->AS->Prop}(hf:P.funcs[f]?=some fn)(hb:fn.body=some c)(h:W P G X H c (args++bjS (fn.ntmps - args.length) (.sc undef)) s (N7 P fn s.nx Q)):WC P G X H f args s Q:=by
 obtain⟨e,YV,s1,h1,h2⟩:=h;cases e with
 |normal=>obtain⟨v,h3,h4⟩:=h2;exact⟨_,_,.body hf hb h1 (.inl rfl) h3 (.inl rfl),h4⟩
 |ret=>obtain⟨v,h3,h4⟩:=h2;exact⟨_,_,.body hf hb h1 (.inr rfl) h3 (.inl rfl),h4⟩
 |pan v=>exact⟨_,_,.aHY hf hb h1,h2⟩
 |exit id=>exact h2.elim
end
end AI
namespace AI
open Go Go.RowKit
abbrev XS(P:Program)(G:AN):YY:=λf args s r s'=>Sound P G (.call f args s r s')
def H0:VM:=λ_ _=>none
def UP{P:Program}{G:AN}(h:P.follows .mixedOrders=true):aHR P G (XS P G) H0:=⟨h,λ_ _ _ _ _ h=>h,λ_ _ _ _ _ h=>by cases h⟩
def Pure(P:Program)(G:AN)(f:FuncId)(args:List AV)(v:AV):Prop:=∀s,Sound P G (.call f args s (.ret v) s)
def rows{α:Type}(f:α->List AV)(l:List α):List AV:=l.flatMap f
def SK{α:Type}{f:α->List AV}{k:Nat}(hf:∀x,(f x).length=k){l:List α}{i:Nat}{x:α}(h:l[i]?=some x):(rows f l).drop (i*k)=f x++rows f (l.drop (i+1)):=by
 induction l generalizing i with
 |nil=>simp at h
 |cons y l ih=>
  cases i with
  |zero=>simp at h;subst h;simp[rows]
  |succ i=>
   have:=ih (i:=i) (by simpa using h)
   have e:rows f (y::l)=f y++rows f l:=by simp[rows]
   rw[e,List.drop_append,hf y,show(i+1)*k - k=i*k by rw[blG];omega,List.drop_eq_nil_of_le (by rw[hf y,blG];omega),List.nil_append,this];simp
def HU{α:Type}{f:α->List AV}{k:Nat}(hf:∀x,(f x).length=k)(l:List α):(rows f l).length=l.length*k:=by
 induction l with
 |nil=>simp[rows]
 |cons y l ih=>
  have e:rows f (y::l)=f y++rows f l:=by simp[rows]
  rw[e,aWQ,hf y,ih,bhE,blG];omega
def Mu{α:Type}(f:α->List AV)(l m:List α):rows f (l++m)=rows f l++rows f m:=by simp[rows]
def Fq{α:Type}(f:α->List AV)(x:α)(m:List α):rows f (x::m)=f x++rows f m:=by simp[rows]
def aeD{α:Type}{f:α->List AV}{l:List α}(h:∀x∈l,BC (f x)=true):BC (rows f l)=true:=by
 have WH:∀a b:List AV,BC a=true->BC b=true->BC (a++b)=true:=by
  intro a b ha hb
  induction a with
  |nil=>exact hb
  |cons x a ih=>
   simp only[BC,bhB,List.cons_append] at ha ⊢;exact⟨ha.1,ih ha.2⟩
 induction l with|nil=>rfl|cons y l ih=>rw[Fq];exact WH _ _ (h y biK) (ih λx hx=>h x (biB _ hx))
def acZ{P:Program}{α:Type}{f:α->List AV}{k:Nat}{t elem:TypeId}{e:TypeInfo}(hu:P.underlying t=some (.slice elem))(he:P.info? elem=some e)(hk:e.size=k)(hf:∀x,(f x).length=k){own:Own}{l:List α}{i:Nat}{x:α}(h:l[i]?=some x) :
   CQ P t (.sl own l.length (rows f l)) (.sc (.int .i64 (i:Int)))=some (.el (f x++rows f (l.drop (i+1)))):=by
 have hi:=(aBC.1 h).1
 have hn:Uc (.sc (.int .i64 (i:Int)))=some i:=by unfold Uc;simp
 unfold CQ;rw[hu,hn];simp only[he,hk,if_pos hi,SK hf h]
def ayT{i:Nat}(h:i<=9223372036854775807):bmL.wrap (i:Int)=(i:Int):=by refine bmW _ ?_;omega
end AI
namespace AI
open Go Go.RowKit
section
variable {G:AN}
inductive NZ where
 |t (tmp sz:Nat)
 |b (id i sz:Nat)
 |l (tmp:Nat)
 |lb (id i:Nat)
def aCL:AV->Bool
 |.sl .full n cs=>(match n with | 0=>(match cs with | []=>true | _=>false) | _=>false)
 |_=>false
def nz1(fr:List AV)(s:AS):NZ->Option (List AV×AS)
 |.t k sz=>(match fr[k]? with
  |some a=>(match aCL a with|true=>some (fr.set k (.sl (.row s.nr sz) 0 []),s.tok)|false=>none)
  |none=>none)
 |.b id i sz=>(match look id s.h with
  |some (.cells cs)=>(match cs[i]? with
   |some a=>(match aCL a with|true=>some (fr,⟨T9 id (.cells (cs.set i (.sl (.row s.nr sz) 0 []))) s.h,s.nx,(s.nr,0)::s.F,s.nr+1⟩)|false=>none)
   |none=>none)
  |_=>none)
 |.l k=>(match fr[k]? with|some a=>some (fr.set k (aeX a),s)|none=>none)
 |.lb id i=>(match look id s.h with
  |some (.cells cs)=>(match cs[i]? with|some a=>some (fr,⟨T9 id (.cells (cs.set i (aeX a))) s.h,s.nx,s.F,s.nr⟩)|none=>none)
  |_=>none)
def nzs:List NZ->List AV->AS->Option (List AV×AS)
 |[],fr,s=>some (fr,s)
 |z::l,fr,s=>(match nz1 fr s z with|some (fr,s)=>nzs l fr s|none=>none)
def Wkn(G:AN)(fr:List AV)(s:AS)(fr2:List AV)(s2:AS):Prop:=∀(cx:Cx)(w:World)(vs:List Value),St G cx w s->Cw cx w fr vs->∃cx2,Ext cx w cx2 w/\St G cx2 w s2/\Cw cx2 w fr2 vs
def Wkn.refl{fr:List AV}{s:AS}:Wkn G fr s fr s:=λcx w vs h1 h2=>⟨cx,Ext.refl _ _,h1,h2⟩
def Wkn.trans{fr fr2 fr3:List AV}{s s2 s3:AS}(h:Wkn G fr s fr2 s2)(k:Wkn G fr2 s2 fr3 s3):Wkn G fr s fr3 s3:=λcx w vs h1 h2=>by
 obtain⟨c2,x2,s2,r2⟩:=h cx w vs h1 h2;obtain⟨c3,x3,s3,r3⟩:=k c2 w vs s2 r2;exact⟨c3,x2.trans x3,s3,r3⟩
def ahG{a:AV}(h:aCL a=true){c:Cx}{w:World}{v:Value}(hr:Rp c w a v){r sz:Nat}(hl:r < c.rows.length):Rp c w (.sl (.row r sz) 0 []) v:=by
 unfold aCL at h;split at h
 ·split at h
  ·split at h
   ·cases hr with
    |sl0 h0=>exact .sl0 ⟨h0,hl⟩
    |Lt hn hc ho=>
     have:_=0:=ho;subst this;exact .sl0 ⟨rfl,hl⟩
   cases h
  cases h
 cases h
def pE{a:AV}{c:Cx}{w:World}{v:Value}(hr:Rp c w a v):Rp c w (aeX a) v:=by cases hr with|sl0 _=>exact .sl0 trivial|Lt hn hc ho=>exact .Lt hn hc trivial|sc h=>exact .sc h|agg h=>exact .agg h|Gx h=>exact .Gx h|Im h1 h2=>exact .Im h1 h2|el h=>exact .el h|ptr h=>exact .ptr h|fn h1 h2=>exact .fn h1 h2|ifc h=>exact .ifc h|mp h=>exact .mp h|any h=>exact .any h|raw=>exact .raw
def Cw.aEG{c:Cx}{w:World}{as:List AV}{vs:List Value}(h:Cw c w as vs){i:Nat}{a b:AV}(ha:as[i]?=some a)(hb:∀v,Rp c w a v->Rp c w b v):Cw c w (as.set i b) vs:=by
 induction as generalizing vs i with
 |nil=>simp at ha
 |cons x as ih=>
  cases h with
  |cons h1 t=>
   cases i with|zero=>simp at ha;subst ha;exact .cons (hb _ h1) t|succ i=>exact .cons h1 (ih t (by simpa using ha))
def St.adY{c:Cx}{w:World}{s:AS}(h:St G c w s){id:Nat}{b b2:Ay}(hb:look id s.h=some b)(hk:∀o,Fc c w b o->Fc c w b2 o):St G c w ⟨T9 id b2 s.h,s.nx,s.F,s.nr⟩ :=
 ⟨h.len,kK h.desc,h.nodup,h.low,λT5 g b' h1 h2=>by
  rcases kL h2 with ⟨rfl,rfl⟩ | ⟨_,h3⟩
  obtain⟨o,ho,rJ⟩:=h.box _ g b h1 hb;exact⟨o,ho,hk o rJ⟩;exact h.box T5 g b' h1 h3,h.Ia,h.row,h.IZ,h.NA,h.Ng,h.Ie,h.Nh,h.Sa,h.ON⟩
def aQG{fr fr2:List AV}{s s2:AS}{z:NZ}(h:nz1 fr s z=some (fr2,s2)):Wkn G fr s fr2 s2:=by
 intro cx w vs hs hr;cases z with
 |t k sz=>
  simp only[nz1] at h;split at h;rename_i a ha;split at h;rename_i hn;cases h;obtain⟨x,st⟩:=hs.tok;refine⟨_,x,st,(hr.mono x).aEG ha (λv hv=>ahG hn hv ?_)⟩;simp[hs.Ia];cases h;cases h
 |b id i sz=>
  simp only[nz1] at h;split at h;rename_i cs hb;split at h;rename_i a ha;split at h;rename_i hn;cases h;obtain⟨x,st⟩:=hs.tok;refine⟨_,x,st.adY (b:=.cells cs) hb (λo ho=>?_),hr.mono x⟩;cases ho with|FA ext h1=>exact .FA ext (h1.aEG ha (λv hv=>ahG hn hv (by simp[hs.Ia])))
  cases h;cases h;cases h
 |l k=>
  simp only[nz1] at h;split at h;rename_i a ha;cases h;exact⟨cx,Ext.refl _ _,hs,hr.aEG ha (λv hv=>pE hv)⟩;cases h
 |lb id i=>
  simp only[nz1] at h;split at h;rename_i cs hb;split at h;rename_i a ha;cases h;refine⟨cx,Ext.refl _ _,hs.adY (b:=.cells cs) hb (λo ho=>?_),hr⟩;cases ho with|FA ext h1=>exact .FA ext (h1.aEG ha (λv hv=>pE hv))
  cases h;cases h
def auN:∀{l:List NZ}{fr fr2:List AV}{s s2:AS},nzs l fr s=some (fr2,s2)->Wkn G fr s fr2 s2:=by
 intro l
 induction l with
 |nil=>intro fr fr2 s s2 h;simp only[nzs] at h;cases h;exact .refl
 |cons z l ih=>
  intro fr fr2 s s2 h;simp only[nzs] at h;split at h;rename_i f1 s1 h1;exact(aQG h1).trans (ih h);cases h
end
end AI
namespace AI
open Go Go.RowKit
structure Ent where
 f:Nat
 args:List AV
 box:Option (List AV×List AV)
 v:AV
def anZ(P:Program)(G:AN)(e:Ent):Prop:=match e.box with|none=>∀s,Sound P G (.call e.f e.args s (.ret e.v) s)|some (cs,cs')=>∀s id,s.get id=some (.cells cs)->Sound P G (.call e.f (.ptr id 0::e.args) s (.ret e.v) (s.put id (.cells cs')))
def bgR.cons{P:Program}{G:AN}{e:Ent}{l:List Ent}(he:anZ P G e)(hl:∀e∈l,anZ P G e):∀e'∈e::l,anZ P G e':=λe' h=>by
 rcases bhJ.1 h with h | h
 rw[h];exact he;exact hl e' h
end AI
namespace AI
open Go Go.RowKit
inductive Hn where
 |k
 |b (b:Bool)
 |i (z:Int)
 |w (v:AV)
 |a (v:AV) (s:AS)
 |ae (v:AV)
 |af (v:AV)
 |m (s:AS)
 |l (v:AV)
 |s (s:AS)
 |c (v:AV) (s:AS)
 |o (v:AV)
 |z (c:Nat)
 |p (v:AV) (s:AS)
 |g (sz k:Nat) (cs:List AV)
 |u (v:AV) (pre:List (Nat×Ay)) (tp:List (Nat×Nat)) (TS:List (Nat×Ay)) (tu:List (Nat×Nat))
 |q (v:AV) (pre:List (Nat×Ay)) (tp:List (Nat×Nat)) (TS:List (Nat×Ay)) (tu:List (Nat×Nat))
 |n (l:List NZ)
 |x (b:Ay) (v:AV)
 |y (b b2:Ay)
 |lb (m:Ay) (v:AV)
 |sb (m m2:Ay)
 |mb (n:Nat) (m:Ay)
 |za
 |zq (c:Nat)
 |cn (v:AV) (h:List (Nat×Ay)) (dn:Nat) (F:List (Nat×Nat)) (dr:Nat)
 |f (id:Nat) (b b2:Ay)
inductive Cd where
 |eqb (B b:Bool)
 |eqi (X z:Int)
 |idx (t:TypeId) (a b v:AV)
 |bin (op:BinOp) (t:TypeId) (x y:Operand) (a b v:AV)
 |call (f:FuncId) (args:List AV) (s:AS) (v:AV)
 |WH (s:AS) (t tx:TypeId) (a b v:AV) (s1:AS)
 |ix (t:TypeId) (a b v:AV)
 |lk (s:AS) (t:TypeId) (a b:AV) (ok:Bool) (v:AV)
 |ms (s:AS) (t:TypeId) (a b v:AV) (s1:AS)
 |aIB (f:FuncId) (args:List AV) (s:AS) (v:AV) (s1:AS)
 |ld (s:AS) (t:TypeId) (a v:AV)
 |st (s:AS) (t:TypeId) (a x:AV) (s1:AS)
 |mk (s:AS) (t:TypeId) (a b v:AV) (s1:AS)
 |sli (t:TypeId) (a:AV) (l h m:Option AV) (v:AV)
 |aIA (f:FuncId) (args:List AV) (s:AS) (v:AV) (s1:AS)
 |pur (f:FuncId) (args:List AV) (v:AV)
 |bF (t tx:TypeId) (own:Own) (n:Nat) (cs:List AV) (b:AV) (sz k:Nat) (cs2:List AV)
 |eqn (k n:Nat)
 |Sn (f:FuncId) (args:List AV) (r:CR) (pre:List (Nat×Ay)) (tp:List (Nat×Nat)) (TS:List (Nat×Ay)) (tu:List (Nat×Nat))
 |eqx (a b:List (Option Ay)) (c d:List (Option Nat))
 |lkB (b:Ay) (t:TypeId) (k:AV) (ok:Bool) (v:AV)
 |msB (b:Ay) (t:TypeId) (k v:AV) (b2:Ay)
 |ldB (b:Ay) (t:TypeId) (off:Nat) (v:AV)
 |stB (b:Ay) (t:TypeId) (off:Nat) (x:AV) (b2:Ay)
 |mkB (t:TypeId) (a x:AV) (n:Nat) (m:Ay)
 |apB (t tx:TypeId) (a b:AV) (n:Nat) (m:Ay)
 |mY (f:FuncId) (args:List AV) (nx nr:Nat) (v:AV) (h:List (Nat×Ay)) (dn:Nat) (F:List (Nat×Nat)) (dr:Nat)
 |rd (nr:Nat) (b b2:Ay)
 |cv (t t2:TypeId) (a v:AV)
 |apf (t tx:TypeId) (a b v:AV)
def AS.ZT(s:AS):List (Nat×Ay)->AS
 |[]=>s
 |e::l=>(s.put e.1 e.2).ZT l
def AS.Wh(s:AS):List (Nat×Nat)->AS
 |[]=>s
 |e::l=>(AS.mk s.h s.nx (amR e.1 e.2 s.F) s.nr).Wh l
def gK(s:AS):List (Nat×Ay)->List (Option Ay)
 |[]=>[]
 |e::l=>s.get e.1::gK s l
def QJ:List (Nat×Ay)->List (Option Ay)
 |[]=>[]
 |e::l=>some e.2::QJ l
def nJ(F:List (Nat×Nat)):List (Nat×Nat)->List (Option Nat)
 |[]=>[]
 |e::l=>DV e.1 F::nJ F l
def Rz:List (Nat×Nat)->List (Option Nat)
 |[]=>[]
 |e::l=>some e.2::Rz l
def Cd.ok(P:Program)(G:AN):Cd->Prop
 |.eqb B b=>B=b
 |.eqi X z=>X=z
 |.idx t a b v=>CQ P t a b=some v
 |.bin op t x y a b v=>N3 P op t x y a b=some v
 |.call f args s v=>Sound P G (.call f args s (.ret v) s)
 |.WH s t tx a b v s1=>∃v0,MG P s t tx a b=some (v0,s1)/\∀c w u,Rp c w v0 u->Rp c w v u
 |.ix t a b v=>MH P t a b=some v
 |.lk s t a b ok v=>Ka P s t a b ok=some v
 |.ms s t a b v s1=>LW P s t a b v=some s1
 |.aIB f args s v s1=>Sound P G (.call f args s (.ret v) s1)
 |.ld s t a v=>J9 P s t a=some v
 |.st s t a x s1=>Lf P s t a x=some s1
 |.mk s t a b v s1=>Km P s t a b=some (v,s1)
 |.sli t a l h m v=>Nn P t a l h m=some v
 |.aIA f args s v s1=>Sound P G (.call f args s (.pan v) s1)
 |.pur f args v=>∀s,Sound P G (.call f args s (.ret v) s)
 |.bF t tx own n cs b sz k cs2=>∀s:AS,Qd sz s.F n own=true->∃cs0,MG P s t tx (.sl own n cs) b=some (.sl (aJV s sz own) k cs0,s.to k own)/\∀c w u o,Rp c w (.sl o k cs0) u->Rp c w (.sl o k cs2) u
 |.eqn k n=>k=n
 |.Sn f args r pre tp TS tu=>∀s:AS,gK s pre=QJ pre->nJ s.F tp=Rz tp->Sound P G (.call f args s r ((s.ZT TS).Wh tu))
 |.eqx a b c d=>a=b/\c=d
 |.lkB b t k ok v=>∀(s:AS)(id:Nat),s.get id=some b->Ka P s t (.mp id) k ok=some v
 |.msB b t k v b2=>∀(s:AS)(id:Nat),s.get id=some b->LW P s t (.mp id) k v=some (s.put id b2)
 |.ldB b t off v=>∀(s:AS)(id:Nat),s.get id=some b->J9 P s t (.ptr id off)=some v
 |.stB b t off x b2=>∀(s:AS)(id:Nat),s.get id=some b->Lf P s t (.ptr id off) x=some (s.put id b2)
 |.mkB t a x n m=>∀s:AS,∃m0,Km P s t a x=some (.Im s.nx 0 n,s.new m0)/\∀(cx:Cx)(w:World)(o:Obj),Fc cx w m0 o->Fc cx w m o
 |.apB t tx a b n m=>∀s:AS,aLY P G t tx a b s (.Im s.nx 0 n) (s.new m)
 |.mY f args nx nr v h dn F dr=>∀s:AS,s.nx=nx->s.nr=nr->Sound P G (.call f args s (.ret v) ⟨h++s.h,s.nx+dn,F++s.F,s.nr+dr⟩)
 |.apf t tx a b v=>∀s:AS,∃v0,MG P s t tx a b=some (v0,s)/\∀c w u,Rp c w v0 u->Rp c w v u
 |.cv t t2 a v=>ZY P t t2 a=some v
 |.rd nr b b2=>∀(cx:Cx)(w:World)(o:Obj),nr < cx.rows.length->Fc cx w b o->Fc cx w b2 o
def Ub(P:Program)(G:AN):List Cd->Prop
 |[]=>True
 |c::l=>c.ok P G/\Ub P G l
def Ub.WH{P:Program}{G:AN}{l m:List Cd}(h:Ub P G (l++m)):Ub P G l/\Ub P G m:=by induction l with|nil=>exact⟨trivial,h⟩|cons c l ih=>exact⟨⟨h.1,(ih h.2).1⟩,(ih h.2).2⟩
abbrev HO:=Option (AV×AS×List Hn×List Cd)
def ML(s1:Option AR)(hs:List Hn):HO:=match s1 with|some (.val v s)=>some (v,s,hs,[])|_=>none
def aWF(P:Program)(op:BinOp)(t:TypeId)(x y:Operand)(a b:AV)(s:AS):List Hn->HO
 |.k::hs=>(match fB P op t x y a b with|some v=>some (v,s,hs,[])|none=>none)
 |.b c::hs=>(match fB P op t x y a b with|some (.sc (.bool B))=>some (.sc (.bool c),s,hs,[.eqb B c])|_=>none)
 |.i z::hs=>(match fB P op t x y a b with|some (.sc (.int k X))=>some (.sc (.int k z),s,hs,[.eqi X z])|_=>none)
 |.w v::hs=>some (v,s,hs,[.bin op t x y a b v])
 |_=>none
def aWI(P:Program)(t:TypeId)(a b:AV)(s:AS):List Hn->HO
 |.k::hs=>(match CQ P t a b with|some v=>some (v,s,hs,[])|none=>none)
 |.w v::hs=>some (v,s,hs,[.idx t a b v])
 |_=>none
def gM(s:AS)(r:Option AR):List Hn->HO
 |.w v::hs=>(match r with|some (.ent f args)=>some (v,s,hs,[.pur f args v])|_=>none)
 |.a v s1::hs=>(match r with|some (.ent f args)=>some (v,s1,hs,[.aIB f args s v s1])|_=>none)
 |.u v pre tp TS tu::hs=>(match r with|some (.ent f args)=>some (v,(s.ZT TS).Wh tu,hs,[.Sn f args (.ret v) pre tp TS tu,.eqx (gK s pre) (QJ pre) (nJ s.F tp) (Rz tp)])|_=>none)
 |.cn v h dn F dr::hs=>(match r with|some (.ent f args)=>some (v,⟨h++s.h,s.nx+dn,F++s.F,s.nr+dr⟩,hs,[.mY f args s.nx s.nr v h dn F dr])|_=>none)
 |_=>none
def aqY(s:AS)(t tx:TypeId)(a b:AV):List Hn->HO
 |.mb n m::hs=>some (.Im s.nx 0 n,s.new m,hs,[.apB t tx a b n m])
 |.a v s1::hs=>some (v,s1,hs,[.WH s t tx a b v s1])
 |.ae v::hs=>some (v,s,hs,[.WH s t tx a b v s])
 |.af v::hs=>some (v,s,hs,[.apf t tx a b v])
 |.g sz k cs2::hs=>(match a with
  |.sl .full n cs=>some (.sl (.row s.nr sz) k cs2,s.add k,hs,[.bF t tx .full n cs b sz k cs2])
  |.sl (.row r z) n cs=>(match DV r s.F with
   |some m=>(match biS z sz with|true=>some (.sl (.row r sz) k cs2,s.grow r k,hs,[.bF t tx (.row r z) n cs b sz k cs2,.eqn m n])|false=>none)
   |none=>none)
  |_=>none)
 |_=>none
def aWJ(P:Program)(t:TypeId)(a b:AV)(s:AS):List Hn->HO
 |.k::hs=>(match MH P t a b with|some v=>some (v,s,hs,[])|none=>none)
 |.w v::hs=>some (v,s,hs,[.ix t a b v])
 |_=>none
def aIS(t:TypeId)(a b:AV)(ok:Bool)(s:AS):List Hn->HO
 |.w v::hs=>some (v,s,hs,[.lk s t a b ok v])
 |.x m v::hs=>(match a with|.mp id=>some (v,s,hs,[.lkB m t b ok v,.eqx [s.get id] [some m] [] []])|_=>none)
 |_=>none
def aNZ(t:TypeId)(a b v:AV)(s:AS):List Hn->HO
 |.m s1::hs=>some (.sc undef,s1,hs,[.ms s t a b v s1])
 |.y m m2::hs=>(match a with|.mp id=>some (.sc undef,s.put id m2,hs,[.msB m t b v m2,.eqx [s.get id] [some m] [] []])|_=>none)
 |_=>none
def arB(t:TypeId)(a:Option AV)(s:AS)(r:Option AR):List Hn->HO
 |.l v::hs=>(match a with|some a=>some (v,s,hs,[.ld s t a v])|none=>none)
 |.lb m v::hs=>(match a with|some (.ptr id off)=>some (v,s,hs,[.ldB m t off v,.eqx [s.get id] [some m] [] []])|_=>none)
 |hs=>ML r hs
def acP(t:TypeId)(a x:Option AV)(s:AS)(r:Option AR):List Hn->HO
 |.s s1::hs=>(match a,x with|some a,some x=>some (.sc undef,s1,hs,[.st s t a x s1])|_,_=>none)
 |.sb m m2::hs=>(match a,x with|some (.ptr id off),some x=>some (.sc undef,s.put id m2,hs,[.stB m t off x m2,.eqx [s.get id] [some m] [] []])|_,_=>none)
 |hs=>ML r hs
def arD(t:TypeId)(a x:Option AV)(s:AS)(r:Option AR):List Hn->HO
 |.c v s1::hs=>(match a,x with|some a,some x=>some (v,s1,hs,[.mk s t a x v s1])|_,_=>none)
 |.mb n m::hs=>(match a,x with|some a,some x=>some (.Im s.nx 0 n,s.new m,hs,[.mkB t a x n m])|_,_=>none)
 |hs=>ML r hs
def aOA(t:TypeId)(a:Option AV)(l h m:Option (Option AV))(s:AS)(r:Option AR):List Hn->HO
 |.o v::hs=>(match a,l,h,m with|some a,some l,some h,some m=>some (v,s,hs,[.sli t a l h m v])|_,_,_,_=>none)
 |hs=>ML r hs
def aIQ(P:Program)(t t2:TypeId)(a:AV)(s:AS):List Hn->HO
 |.w v::hs=>some (v,s,hs,[.cv t t2 a v])
 |hs=>(match ZY P t t2 a with|some v=>some (v,s,hs,[])|none=>none)
def hDo(P:Program)(G:AN)(fr:List AV)(s:AS)(o:Oper)(hs:List Hn):HO :=
 match o.op with
 |.binOp op t x y _=>(match AP G fr x with
  |some a=>(match AP G fr y with|some b=>aWF P op t x y a b s hs|none=>none)
  |none=>none)
 |.indexAddr t x i=>(match AP G fr x with
  |some a=>(match AP G fr i with|some b=>aWI P t a b s hs|none=>none)
  |none=>none)
 |.index t x i=>(match AP G fr x with
  |some a=>(match AP G fr i with|some b=>aWJ P t a b s hs|none=>none)
  |none=>none)
 |.convert t t2 x=>(match AP G fr x with|some (.sl o n cs)=>aIQ P t t2 (.sl o n cs) s hs|_=>ML (XQ P G fr s o) hs)
 |.lookup t x k ok=>(match AP G fr x with
  |some a=>(match AP G fr k with|some b=>aIS t a b ok s hs|none=>none)
  |none=>none)
 |.mapUpdate t m k x=>(match AP G fr m with
  |some a=>(match AP G fr k with
   |some b=>(match AP G fr x with|some v=>aNZ t a b v s hs|none=>none)
   |none=>none)
  |none=>none)
 |.load t x=>arB t (AY G fr x) s (XQ P G fr s o) hs
 |.store t x y=>acP t (AY G fr x) (AY G fr y) s (XQ P G fr s o) hs
 |.makeSlice t x y=>arD t (AY G fr x) (AY G fr y) s (XQ P G fr s o) hs
 |.slice t x lo hi mx=>aOA t (AY G fr x) (uZ G fr lo) (uZ G fr hi) (uZ G fr mx) s (XQ P G fr s o) hs
 |.call cl=>(match cl.callee with
  |.value _=>gM s (XQ P G fr s o) hs
  |.builtin .append=>(match cl.args.toList,cl.argTypes.toList with
   |[x,y],[t,tx]=>(match AP G fr x with
    |some a=>(match AP G fr y with|some b=>aqY s t tx a b hs|none=>none)
    |none=>none)
   |_,_=>none)
  |_=>ML (XQ P G fr s o) hs)
 |_=>ML (XQ P G fr s o) hs
def nN(P:Program)(G:AN)(ops:Array Oper)(fr:List AV)(s:AS)(o:Oper)(hs:List Hn):HO :=
 match CI ops fr o with|true=>hDo P G fr s o hs|false=>some (.sc undef,s,hs,[])
section
variable {P:Program}{G:AN}{ops:Array Oper}
def Zb{r:Option AR}{hs hs':List Hn}{v:AV}{s:AS}{cd:List Cd}(h:ML r hs=some (v,s,hs',cd)):r=some (.val v s):=by unfold ML at h;split at h;cases h;rfl;cases h
def arC{t:TypeId}{a:Option AV}{r:Option AR}{hs hs':List Hn}{v:AV}{s s1:AS}{cd:List Cd}(h:arB t a s r hs=some (v,s1,hs',cd))(hc:Ub P G cd):(∃a',a=some a'/\J9 P s t a'=some v/\s1=s)\/ML r hs=some (v,s1,hs',cd):=by unfold arB at h;split at h;split at h;cases h;exact .inl ⟨_,rfl,hc.1,rfl⟩;cases h;split at h;cases h;exact .inl ⟨_,rfl,hc.1 _ _ (bqZ hc.2.1.1).1,rfl⟩;cases h;exact .inr h
def Zc{t:TypeId}{a x:Option AV}{r:Option AR}{hs hs':List Hn}{v:AV}{s s1:AS}{cd:List Cd}(h:acP t a x s r hs=some (v,s1,hs',cd))(hc:Ub P G cd):(∃a' x',a=some a'/\x=some x'/\Lf P s t a' x'=some s1/\v=.sc undef)\/ML r hs=some (v,s1,hs',cd):=by unfold acP at h;split at h;split at h;cases h;exact .inl ⟨_,_,rfl,rfl,hc.1,rfl⟩;cases h;split at h;cases h;exact .inl ⟨_,_,rfl,rfl,hc.1 _ _ (bqZ hc.2.1.1).1,rfl⟩;cases h;exact .inr h
def arE{t:TypeId}{a x:Option AV}{r:Option AR}{hs hs':List Hn}{v:AV}{s s1:AS}{cd:List Cd}(h:arD t a x s r hs=some (v,s1,hs',cd))(hc:Ub P G cd):(∃a' x',a=some a'/\x=some x'/\∃s0,Km P s t a' x'=some (v,s0)/\∀cx w,St G cx w s0->St G cx w s1)\/ML r hs=some (v,s1,hs',cd):=by
 unfold arD at h;split at h;split at h;cases h;exact .inl ⟨_,_,rfl,rfl,_,hc.1,λ_ _ h=>h⟩;cases h;split at h;cases h;obtain⟨m0,h1,h2⟩:=hc.1 s;refine .inl ⟨_,_,rfl,rfl,_,h1,λcx w hs=>?_⟩;have:=hs.adY (id:=s.nx) (b:=m0) (b2:=_) (by simp[AS.new,look]) (λo ho=>h2 cx w o ho);simpa[AS.new,T9] using this
 cases h;exact .inr h
def aAZ{t:TypeId}{a:Option AV}{l k m:Option (Option AV)}{r:Option AR}{hs hs':List Hn}{v:AV}{s s1:AS}{cd:List Cd}(h:aOA t a l k m s r hs=some (v,s1,hs',cd))(hc:Ub P G cd):(∃a' l' k' m',a=some a'/\l=some l'/\k=some k'/\m=some m'/\Nn P t a' l' k' m'=some v/\s1=s)\/ML r hs=some (v,s1,hs',cd):=by unfold aOA at h;split at h;split at h;cases h;exact .inl ⟨_,_,_,_,rfl,rfl,rfl,rfl,hc.1,rfl⟩;cases h;exact .inr h
def aNY{fr:List AV}{s s1:AS}{o:Oper}{hs hs':List Hn}{v:AV}{cd:List Cd}(hw:CI ops fr o=true)(h:hDo P G fr s o hs=some (v,s1,hs',cd))(hc:Ub P G cd):J P G (XS P G) H0 (.op ops o fr s (.ret v) s1):=by
 have W6:ML (XQ P G fr s o) hs=some (v,s1,hs',cd)->J P G (XS P G) H0 (.op ops o fr s (.ret v) s1):=λh=>by
  have:=Zb h;rw[Pk] at this;exact .Qe hw this
 unfold hDo at h;split at h;rename_i op t x y z ho;rw[CE,CE] at h;split at h;rename_i a ha;split at h;rename_i b hb
 have fin:∀v',N3 P op t x y a b=some v'->s1=s->v=v'->J P G (XS P G) H0 (.op ops o fr s (.ret v) s1):=by intro v' h1 h2 h3;subst h2 h3;refine .Qe hw ?_;unfold SR;rw[ho];simp only[ha,hb,h1,bhK]
 unfold aWF at h;rw[Uy] at h;split at h;split at h;rename_i h1;cases h;exact fin _ h1 rfl rfl;cases h;split at h;rename_i h1;cases h;have e:_=_:=hc.1;subst e;exact fin _ h1 rfl rfl;cases h;split at h;rename_i h1;cases h;have e:_=_:=hc.1;subst e;exact fin _ h1 rfl rfl;cases h;cases h;exact fin _ hc.1 rfl rfl;cases h;cases h;cases h;rename_i t x i ho;rw[CE,CE] at h;split at h;rename_i a ha;split at h;rename_i b hb
 have fin:∀v',CQ P t a b=some v'->s1=s->v=v'->J P G (XS P G) H0 (.op ops o fr s (.ret v) s1):=by intro v' h1 h2 h3;subst h2 h3;refine .Qe hw ?_;unfold SR;rw[ho];simp only[ha,hb,h1,bhK]
 unfold aWI at h;split at h;split at h;rename_i h1;cases h;exact fin _ h1 rfl rfl;cases h;cases h;exact fin _ hc.1 rfl rfl;cases h;cases h;cases h;rename_i t x i ho;rw[CE,CE] at h;split at h;rename_i a ha;split at h;rename_i b hb
 have fin:∀v',MH P t a b=some v'->s1=s->v=v'->J P G (XS P G) H0 (.op ops o fr s (.ret v) s1):=by intro v' h1 h2 h3;subst h2 h3;refine .Qe hw ?_;unfold SR;rw[ho];simp only[ha,hb,h1,bhK]
 unfold aWJ at h;split at h;split at h;rename_i h1;cases h;exact fin _ h1 rfl rfl;cases h;cases h;exact fin _ hc.1 rfl rfl;cases h;cases h;cases h;rename_i t t2 x ho;rw[CE] at h;split at h;rename_i ow n cs ha
 have fin:∀v',ZY P t t2 (.sl ow n cs)=some v'->s1=s->v=v'->J P G (XS P G) H0 (.op ops o fr s (.ret v) s1):=by intro v' h1 h2 h3;subst h2 h3;refine .Qe hw ?_;unfold SR;rw[ho];simp only[ha,Uu,h1,bhK]
 unfold aIQ at h;split at h;cases h;exact fin _ hc.1 rfl rfl;split at h;rename_i h1;cases h;exact fin _ h1 rfl rfl;cases h;exact W6 h;rename_i t x k ok ho;rw[CE,CE] at h;split at h;rename_i a ha;split at h;rename_i b hb
 have h1:Ka P s t a b ok=some v/\s1=s:=by
  unfold aIS at h;split at h;cases h;exact⟨hc.1,rfl⟩;split at h;cases h;refine⟨hc.1 _ _ ?_,rfl⟩;have h2:=hc.2.1.1;simpa using h2
  cases h;cases h
 obtain⟨h1,rfl⟩:=h1;refine .Qe hw ?_;unfold SR;rw[ho];simp only[ha,hb,h1,bhK];cases h;cases h;rename_i t m k x ho;rw[CE,CE,CE] at h;split at h;rename_i a ha;split at h;rename_i b hb;split at h;rename_i x' hx
 have h1:LW P s t a b x'=some s1/\v=.sc undef:=by
  unfold aNZ at h;split at h;cases h;exact⟨hc.1,rfl⟩;split at h;cases h;refine⟨hc.1 _ _ ?_,rfl⟩;have h2:=hc.2.1.1;simpa using h2
  cases h;cases h
 obtain⟨h1,rfl⟩:=h1;refine .Qe hw ?_;unfold SR;rw[ho];simp only[ha,hb,hx,h1,bhK];cases h;cases h;cases h;rename_i t x ho;rcases arC h hc with ⟨a,ha,h1,rfl⟩ | h1
 refine .Qe hw ?_;unfold SR;rw[ho];simp only[ha,Uu,h1,bhK];exact W6 h1;rename_i t x y ho;rcases Zc h hc with ⟨a,b,ha,hb,h1,rfl⟩ | h1
 refine .Qe hw ?_;unfold SR;rw[ho];simp only[ha,hb,h1,bhK];exact W6 h1;rename_i t x y ho;rcases arE h hc with ⟨a,b,ha,hb,s0,h1,h2⟩ | h1
 refine .sT ?_ (.Qe (s':=s0) hw ?_) h2;simp only[quiet,ho];unfold SR;rw[ho];simp only[ha,hb,h1,bhK];exact W6 h1;rename_i t x lo hi mx ho;rcases aAZ h hc with ⟨a,l,k,m,ha,hl,hk,hm,h1,rfl⟩ | h1
 refine .Qe hw ?_;unfold SR;rw[ho];simp only[ha,hl,hk,hm,h1,bhK];exact W6 h1;rename_i cl ho;split at h;unfold gM at h;split at h;split at h;rename_i h1;cases h;rw[Pk] at h1;exact .U4 hw h1 (.ext (hc.1 s));cases h;split at h;rename_i h1;cases h;rw[Pk] at h1;exact .U4 hw h1 (.ext hc.1);cases h;split at h;rename_i h1;cases h;rw[Pk] at h1;exact .U4 hw h1 (.ext (hc.1 s hc.2.1.1 hc.2.1.2));cases h;split at h;rename_i h1;cases h;rw[Pk] at h1;exact .U4 hw h1 (.ext (hc.1 s rfl rfl));cases h;cases h;rename_i IX;split at h;rename_i x y t tx hxs Fg;rw[CE,CE] at h;split at h;rename_i a ha;split at h;rename_i b hb
 have fin:∀v0,MG P s t tx a b=some (v0,s1)->(∀c w u,Rp c w v0 u->Rp c w v u)->J P G (XS P G) H0 (.op ops o fr s (.ret v) s1):=by intro v0 h1 h2;refine .adP (v:=v0) ?_ (.Qe hw ?_) h2;simp only[quiet,ho,IX];unfold SR;rw[ho];simp only[Wc,IX,hxs,Fg,ha,hb,h1,bhK]
 unfold aqY at h;split at h;cases h;exact .auP hw ho IX hxs Fg ha hb (hc.1 s);cases h;obtain⟨v0,h1,h2⟩:=hc.1;exact fin v0 h1 h2;cases h;obtain⟨v0,h1,h2⟩:=hc.1;exact fin v0 h1 h2;cases h;obtain⟨v0,h1,h2⟩:=hc.1 s;exact fin v0 h1 h2;split at h;cases h;obtain⟨cs0,h1,h2⟩:=hc.1 s rfl;exact fin _ h1 (λc w u=>h2 c w u _);rename_i r z n cs;split at h;rename_i m hm;split at h;rename_i hz;have hz:=beq_true hz;subst hz;cases h;have e:m=n:=hc.2.1;subst e;obtain⟨cs0,h1,h2⟩:=hc.1 s (by simp[Qd,hm]);exact fin _ h1 (λc w u=>h2 c w u _);cases h;cases h;cases h;cases h;cases h;cases h;cases h;exact W6 h;exact W6 h
def RG{fr:List AV}{s s1:AS}{o:Oper}{hs hs':List Hn}{v:AV}{cd:List Cd}(h:nN P G ops fr s o hs=some (v,s1,hs',cd))(hc:Ub P G cd):J P G (XS P G) H0 (.op ops o fr s (.ret v) s1):=by unfold nN at h;split at h;rename_i hw;exact aNY hw h hc;rename_i hw;cases h;exact .adO hw
end
end AI
namespace AI
open Go Go.RowKit
def P1(op:Op):Bool:=match op with
 |.call cl=>(match cl.callee with | .value _=>true | _=>false)
 |_=>false
def S9(op:Op):Bool:=match op with
 |.call cl=>(match cl.callee with | .value _=>true | .builtin .append=>true | _=>false)
 |_=>false
def aBO{op:Op}(h:P1 op=true):S9 op=true:=by unfold P1 at h;split at h;split at h;rename_i IX;simp[S9,IX];cases h;cases h
def rX:List Hn->Bool
 |.a _ _::_=>true
 |.u _ _ _ _ _::_=>true
 |.cn _ _ _ _ _::_=>true
 |.mb _ _::_=>true
 |_=>false
def wQ(P:Program)(G:AN)(ops:Array Oper)(fr:List AV)(s:AS)(o:Oper)(hs:List Hn):HO:=match S9 o.op with
 |true=>(match rX hs with|true=>none|false=>nN P G ops fr s o hs)
 |false=>nN P G ops fr s o hs
def gN{P:Program}{G:AN}{ops:Array Oper}{fr:List AV}{s:AS}{o:Oper}{hs:List Hn}{r:AV×AS×List Hn×List Cd}(h:wQ P G ops fr s o hs=some r):nN P G ops fr s o hs=some r/\(S9 o.op=true->rX hs=false):=by unfold wQ at h;split at h;split at h;cases h;rename_i h1;exact⟨h,λ_=>h1⟩;rename_i h1;exact⟨h,λh2=>by rw[h1] at h2;cases h2⟩
def VE{P:Program}{G:AN}{ops:Array Oper}{fr:List AV}{s:AS}{o:Oper}{hs:List Hn}{r:AV×AS×List Hn×List Cd}(h:wQ P G ops fr s o hs=some r):nN P G ops fr s o hs=some r/\(P1 o.op=true->rX hs=false):=⟨(gN h).1,λh1=>(gN h).2 (aBO h1)⟩
abbrev HT:=Option (List Hn×List Cd×List (List AV×AS×AV)×List AV×AS)
def alC(cd:List Cd)(x:List AV×AS×AV):HT->HT
 |some (hs,cd',t,fr,s)=>some (hs,cd++cd',x::t,fr,s)
 |none=>none
def hTr(P:Program)(G:AN)(ops:Array Oper):List Oper->Nat->List Hn->List AV->AS->HT
 |[],_,hs,fr,s=>some (hs,[],[],fr,s)
 |o::l,q,hs,fr,s=>(match BX o.op with|true=>alC [] (fr,s,RA ops fr o q) (hTr P G ops l (q+1) hs (JB fr o.dst (RA ops fr o q)) s)|false=>(match wQ P G ops fr s o hs with|some (v,s1,UX,cd)=>alC cd (fr,s,v) (hTr P G ops l q UX (JB fr o.dst v) s1)|none=>none))
def aVV(q0:Nat):Option AV->Bool
 |some (.el _)=>true
 |some (.ptr id _)=>Nat.blt id q0
 |_=>false
def aYW(q0:Nat):Option AV->Bool
 |some (.ptr id _)=>bmY q0 id
 |_=>false
def slV:Option AV->Bool
 |some (.sl _ _ _)=>true
 |some (.sc (.string _))=>true
 |_=>false
def mpV(q0:Nat):Option AV->Bool
 |some (.mp id)=>Nat.blt id q0
 |_=>false
def indep(G:AN)(q0:Nat)(fr:List AV)(o:Oper):Bool:=match o.op with
 |.load _ a=>aVV q0 (AP G fr a)
 |.lookup _ m _ _=>mpV q0 (AP G fr m)
 |.store _ a _=>aYW q0 (AP G fr a)
 |.call cl=>(match cl.callee with
  |.value _=>true
  |.builtin .append=>true
  |.builtin .len=>(match cl.args.toList with|[x]=>slV (AP G fr x)|_=>false)
  |_=>quiet o.op)
 |.alloc _=>true
 |op=>quiet op
def Ns(G:AN)(ops:Array Oper)(q0:Nat):List Oper->List (List AV×AS×AV)->Bool
 |o::os,t::ts=>(match CI ops t.1 o with|false=>Ns G ops q0 os ts|true=>(match indep G q0 t.1 o with|true=>Ns G ops q0 os ts|false=>false))
 |_,_=>true
def Far(q0:Nat)(s s':AS):Prop:=∀id,id < q0->s'.get id=s.get id
def Jy{id T5:Nat}{b:Ay}(h:T5≠id):∀(l:List (Nat×Ay)),look T5 (T9 id b l)=look T5 l
 |[]=>rfl
 |e::l=>by
  simp only[T9];split;rename_i hb;have hb:=beq_true hb;simp only[look]
  have h1:biS id T5=false:=by cases hq:biS id T5 with|true=>exact absurd (beq_true hq).symm h|false=>rfl
  rw[hb,h1];simp only[look,Jy h l]
section
variable {P:Program}{G:AN}{ops:Array Oper}
def aAU{q0:Nat}{fr:List AV}{s s1:AS}{o:Oper}{hs hs':List Hn}{v:AV}{cd:List Cd}(h:nN P G ops fr s o hs=some (v,s1,hs',cd))(hA:S9 o.op=true->rX hs=false)(hi:CI ops fr o=true->indep G q0 fr o=true)(hc:Ub P G cd)(ha:BX o.op=false):Far q0 s s1:=by
 intro id hid;have hj:=RG h hc;cases hq:quiet o.op with
 |true=>rw[(KS hq hj).1]
 |false=>
  unfold nN at h;split at h;rename_i hw;have hi:=hi hw;unfold indep at hi;split at hi;rename_i t a ho;rw[ho] at hq;cases hq;rename_i t m k ok ho;rw[ho] at hq;cases hq;rename_i t a x ho;unfold hDo at h;rw[ho] at h;simp only at h
  have h1:∃a' x',AY G fr a=some a'/\AY G fr x=some x'/\Lf P s t a' x'=some s1:=by
   rcases Zc h hc with ⟨a',x',h2,h3,h4,_⟩ | h2
   exact⟨a',x',h2,h3,h4⟩;have h1:=Zb h2;rw[Pk] at h1;unfold SR at h1;rw[ho] at h1;simp only at h1;split at h1;rename_i a' x' ha' Ze;obtain⟨s',Dc,he⟩:=map_some h1;injection he with he1 he2
   subst he2;exact⟨a',x',ha',Ze,Dc⟩;cases h1
  rw[CE] at hi;obtain⟨a',x',ha',Ze,Dc⟩:=h1;rw[ha'] at hi;unfold aYW at hi;split at hi;rename_i T5 off Sb;cases Sb;unfold Lf at Dc;split at Dc;rename_i i id2 bfM WQ arP;cases arP;split at Dc;split at Dc;cases Dc;have:=bhG hi;exact Jy (by omega) _;cases Dc;cases Dc;cases Dc;cases hi;rename_i cl ho;split at hi;rename_i f IX;unfold hDo at h;rw[ho] at h;simp only[IX] at h;unfold gM at h;split at h;split at h;cases h;rfl;cases h;have:=hA (by rw[ho];simp[S9,IX]);simp[rX] at this;have:=hA (by rw[ho];simp[S9,IX]);simp[rX] at this;have:=hA (by rw[ho];simp[S9,IX]);simp[rX] at this;cases h;rename_i IX;unfold hDo at h;rw[ho] at h;simp only[IX] at h;have no:=hA (by rw[ho];simp[S9,IX]);split at h;split at h;split at h;unfold aqY at h;split at h;simp[rX] at no;simp[rX] at no;cases h;rfl;cases h;rfl;split at h;cases h;rfl;split at h;split at h;cases h;rfl;cases h;cases h;cases h;cases h;cases h;cases h;cases h;rename_i IX;rw[ho] at hq;simp[quiet,IX] at hq;rw[ho] at hq;rw[ho,hq] at hi;cases hi;rename_i e ho;rw[ho] at ha;cases ha;rw[hq] at hi;cases hi;cases h;rfl
def Far.refl(q0:Nat)(s:AS):Far q0 s s:=λ_ _=>rfl
def Far.trans{q0:Nat}{a b c:AS}(h:Far q0 a b)(k:Far q0 b c):Far q0 a c:=λid hid=>(k id hid).trans (h id hid)
def aOB{q0:Nat}{l:List Oper}{q:Nat}{hs hs':List Hn}{fr BM:List AV}{s s':AS}{cd:List Cd}{t:List (List AV×AS×AV)}(h:hTr P G ops l q hs fr s=some (hs',cd,t,BM,s'))(hc:Ub P G cd)(hi:Ns G ops q0 l t=true) :
   VO P G (XS P G) H0 ops q l fr s t BM s'/\(∀x∈t,Far q0 s x.2.1)/\Far q0 s s':=by
 induction l generalizing q hs fr s cd t with
 |nil=>simp only[hTr] at h;cases h;exact⟨.nil,(λx hx=>by cases hx),Far.refl _ _⟩
 |cons o l ih=>
  simp only[hTr] at h;cases ha:BX o.op with
  |true=>
   rw[ha] at h;simp only at h;unfold alC at h;split at h;rename_i nU cd2 t2 fr2 s2 h2;cases h
   have WQ:Ns G ops q0 l t2=true:=by simp only[Ns] at hi;split at hi;exact hi;split at hi;exact hi;cases hi
   obtain⟨k1,k2,k3⟩:=ih h2 (hc.WH).2 WQ;refine⟨.alloc ha k1,λx hx=>?_,k3⟩;rcases bhJ.1 hx with rfl | hx
   exact Far.refl _ _;exact k2 x hx;cases h
  |false=>
   rw[ha] at h;simp only at h;split at h;rename_i v s1 UX cd1 h1;unfold alC at h;split at h;rename_i nU cd2 t2 fr2 s2 h2;cases h;obtain⟨c1,c2⟩:=hc.WH
   have hi1:CI ops fr o=true->indep G q0 fr o=true:=by intro hw;simp only[Ns,hw] at hi;split at hi;assumption;cases hi
   have WQ:Ns G ops q0 l t2=true:=by simp only[Ns] at hi;split at hi;exact hi;split at hi;exact hi;cases hi
   have hf:=aAU (VE h1).1 (gN h1).2 hi1 c1 ha;obtain⟨k1,k2,k3⟩:=ih h2 c2 WQ;refine⟨.cons ha (RG (VE h1).1 c1) k1,λx hx=>?_,hf.trans k3⟩;rcases bhJ.1 hx with rfl | hx
   exact Far.refl _ _;exact hf.trans (k2 x hx);cases h;cases h
def alI{q0:Nat}{os:List Oper}{ts:List (List AV×AS×AV)}(h:Ns G ops q0 os ts=true){i:Nat}{o:Oper}{x:List AV×AS×AV}(ho:os[i]?=some o)(hx:ts[i]?=some x)(hw:CI ops x.1 o=true):indep G q0 x.1 o=true:=by
 induction os generalizing ts i with
 |nil=>simp at ho
 |cons y os ih=>
  cases ts with
  |nil=>simp at hx
  |cons t ts=>
   simp only[Ns] at h;cases i with
   |zero=>
    simp at ho hx;subst ho hx;rw[hw] at h;simp only at h;split at h;assumption;cases h
   |succ i=>
    have h2:Ns G ops q0 os ts=true:=by split at h;exact h;split at h;exact h;cases h
    exact ih h2 (by simpa using ho) (by simpa using hx)
def aqM{q0:Nat}{fr:List AV}{s0 s s2:AS}{o:Oper}{v:AV}(hq:quiet o.op=true)(hr:reads o.op=true)(hi:indep G q0 fr o=true)(h1:Far q0 s0 s)(h2:Far q0 s0 s2)(h:SR P G fr s o=some (.val v s)):SR P G fr s2 o=some (.val v s2):=by
 unfold indep at hi;split at hi;rename_i t a ho;rw[CE] at hi;unfold SR at h ⊢;rw[ho] at h ⊢;simp only at h ⊢;obtain⟨v',h3,h4⟩:=map_some h;injection h4 with h4
 subst h4;obtain⟨b,h5,h6⟩:=bind_some h3;rw[h5] at hi ⊢;unfold aVV at hi;split at hi;rename_i Sb;cases Sb;simp only[Uu];rw[show J9 P s2 t (.el _)=J9 P s t (.el _) from rfl,h6];rfl;rename_i id off Sb;cases Sb;have hid:id < q0:=bhG hi
 have:J9 P s2 t (.ptr id off)=J9 P s t (.ptr id off):=by simp only[J9];rw[h2 id hid,h1 id hid]
 simp only[Uu];rw[this,h6];rfl;cases hi
 ·rename_i t m k ok ho
  rw[CE] at hi;unfold SR at h ⊢;rw[ho] at h ⊢;simp only at h ⊢;unfold mpV at hi;split at hi
  ·rename_i id Sb
   have hid:id < q0:=bhG hi;rw[Sb] at h ⊢;cases hk:AY G fr k with
   |none=>rw[hk] at h;cases h
   |some b=>
    rw[hk] at h;simp only at h ⊢;obtain⟨v',h3,h4⟩:=map_some h;injection h4 with h4
    subst h4
    have:Ka P s2 t (.mp id) b ok=Ka P s t (.mp id) b ok:=by unfold Ka;simp only;rw[h2 id hid,h1 id hid]
    rw[this,h3];rfl
  cases hi
 rename_i t a x ho;rw[ho] at hq;cases hq
 ·rename_i cl ho
  split at hi;rename_i f IX;rw[ho] at hq;simp[quiet,IX] at hq;rename_i IX;rw[ho] at hq;simp[quiet,IX] at hq
  ·rename_i IX
   unfold SR at h ⊢;rw[ho] at h ⊢;simp only[Wc,IX] at h ⊢;split at hi
   ·rename_i x hx
    rw[hx] at h ⊢;cases ht:cl.argTypes.toList with
    |nil=>rw[ht] at h;cases h
    |cons t1 ts=>
     cases ts with
     |cons _ _=>rw[ht] at h;cases h
     |nil=>
      rw[ht] at h;simp only at h ⊢;obtain⟨v',h3,h4⟩:=map_some h;injection h4 with h4
      subst h4;obtain⟨b,h5,h6⟩:=bind_some h3;rw[CE,h5] at hi;rw[h5];simp only[Uu]
      have:aZ P s2 t1 b=aZ P s t1 b:=by
       unfold slV at hi;split at hi
       ·rename_i Sb;cases Sb;unfold aZ;split<;>first | rfl | (simp_all;done)
       ·rename_i Sb;cases Sb;unfold aZ;split<;>first | rfl | (simp_all;done)
       cases hi
      rw[this,h6];rfl
   cases hi
  ·rename_i hn1 hn2
   rw[ho] at hr;unfold reads at hr;simp only at hr
   first
    |(cases hr;done)
    | (split at hr
       rename_i IX;exact absurd IX hn2;cases hr)
 rename_i e ho;rw[ho] at hq;cases hq;rename_i hn1 hn2 hn3 hn4 hn5;exfalso;unfold reads at hr;split at hr;rename_i ho;exact hn1 _ _ ho;rename_i ho;exact hn2 _ _ _ _ ho;rename_i ho;exact hn4 _ ho;cases hr
def aqC{id:Nat}{fr BM:List AV}{s s':AS}{r:List Ay}{t:List (List AV×AS×AV)}{hs hs':List Hn}{cd:List Cd}(IQ:Oh ops=true)(hr:rsv P ops.toList=some r)(h:hTr P G ops ops.toList s.nx hs fr (s.hold r)=some (hs',cd,t,BM,s'))(hc:Ub P G cd)(hi:Ns G ops s.nx ops.toList t=true)(asA:dT P ops t s' s.nx r=true):J P G (XS P G) H0 (.code (.region id ops true) fr s .normal BM s'):=by
 obtain⟨htr,bcQ,aWZ⟩:=aOB h hc hi;have hlen:t.length=ops.size:=by rw[htr.len,biR]
 have hfk:∀k,Far s.nx (s.hold r) (GI t s' k):=by intro k;unfold GI;split;rename_i x hx;exact bcQ x (aWR hx);exact aWZ
 obtain⟨h0,WN⟩:=htr.at;have acR:∀i o,ops[i]?=some o->Cn ops i=o.dst:=λi o ho=>by unfold Cn;rw[ho];rfl
 obtain⟨Zd,gY⟩:=htr.qW (Cn ops) (LS t) fr 0 rfl (λi o ho=>by rw[bhC];exact acR i o (by rw[<- biO];exact ho)) (λi=>.inl (by rw[bhC]));rw[bhC,biR] at Zd
 have IN:∀(i:Nat)(o:Oper),ops[i]?=some o->BX o.op=false->J P G (XS P G) H0 (.op ops o (Js fr (Cn ops) (LS t) (λ_=>true) i) (GI t s' i) (.ret (LS t i)) (GI t s' (i+1))):=by
  intro i o ho hna;obtain⟨fi,h1,h2⟩:=WN i o (Cl ho);have:=gY i _ h1;simp only[bhC] at this;rcases h2 with ⟨_,h2⟩ | ⟨h2,_⟩
  rw[<- this];exact h2;rw[hna] at h2;cases h2
 have aWK:∀(i:Nat)(o:Oper),ops[i]?=some o->BX o.op=true->GI t s' (i+1)=GI t s' i/\LS t i=RA ops (Js fr (Cn ops) (LS t) (λ_=>true) i) o (s.nx+rk ops i):=by
  intro i o ho rV;obtain⟨fi,h1,h2⟩:=WN i o (Cl ho);have:=gY i _ h1;simp only[bhC] at this;rcases h2 with ⟨h2,_⟩ | ⟨_,h2⟩
  rw[rV] at h2;cases h2;rw[<- this];exact h2
 have hna:∀o:Oper,quiet o.op=true->BX o.op=false:=by intro o hq;cases rV:BX o.op with|false=>rfl|true=>obtain⟨e,he⟩:=L8 rV;rw[T1 he] at hq;cases hq
 have hnl:∀o:Oper,calm o.op=false->BX o.op=false:=by intro o hq;cases rV:BX o.op with|false=>rfl|true=>unfold calm at hq;rw[rV] at hq;cases hq
 have hsn:GI t s' ops.size=s':=by unfold GI;rw[bjE (by omega)]
 have hsk:∀k,k<=ops.size->(t.map (λx=>x.2.1)++[s'])[k]?=some (GI t s' k):=by
  intro k hk;unfold GI;by_cases hkt:k < t.length;rw[bhD (by simpa using hkt),biH,aBD hkt];rfl
  have:k=t.length:=by omega
  subst this;rw[bjF (by simp)];simp
 have agK:∀l,l∈Pq ops.toList 0->iQ ops l:=by intro l hl;obtain⟨j,o',e,h5,h6⟩:=sF hl;rw[bhC] at e;subst e;exact⟨o',by rw[<- biO];exact h5,h6⟩
 have key:=J.draw (P:=P) (G:=G) (X:=XS P G) (H:=H0) (id:=id) (f0:=fr) (s0:=s) r (LS t) (GI t s') h0 IQ (λi o ho hl=>IN i o ho (hnl o hl)) (λi o ho hq=>by
  obtain⟨h1,h2⟩:=KS hq (IN i o ho (hna o hq));refine⟨h1,?_⟩;rcases h2 with h2 | ⟨hw,h2⟩
  exact .inl h2
  ·refine .inr ⟨hw,λk hk mA=>?_⟩
   cases hrd:reads o.op with
   |false=>exact W9 hq hrd h2 _
   |true=>
    obtain⟨fi,hti,_⟩:=WN i o (Cl ho);have hfi:=gY i _ hti;simp only[bhC] at hfi;have hin:=alI hi (Cl ho) hti (by rw[hfi];exact hw);rw[hfi] at hin;exact aqM hq hrd hin (hfk i) (hfk k) h2) (λi o e ho he=>by
  have rV:BX o.op=true:=by rw[he];rfl
  obtain⟨h1,h2⟩:=aWK i o ho rV;refine⟨h1,?_⟩
  have hrk:rk ops i < r.length:=by rw[aDY hr];exact aeC (Cl ho) rV (by rw[biR];exact(aPB.1 ho).1)
  cases hw:CI ops (Js fr (Cn ops) (LS t) (λ_=>true) i) o with
  |false=>unfold RA at h2;rw[hw] at h2;exact .inl ⟨rfl,h2⟩
  |true=>
   unfold RA at h2;rw[hw] at h2;obtain⟨fi,hti,_⟩:=WN i o (Cl ho);have hfi:=gY i _ hti;simp only[bhC] at hfi
   have hal:WD P ops (I7 ops.toList []) (Pq ops.toList 0) (t.map (·.2.1)++[s']) ops.toList t 0 s.nx=true:=by unfold dT at asA;split at asA;simp at hrk;exact asA
   obtain⟨z,hz,hbx⟩:=akH hal (Cl ho) hti he (by rw[hfi];exact hw);rw[bhC] at hbx;exact .inr ⟨rfl,z,hz,hrk,h2,λk hk mA=>akO hbx (hsk k hk) (by rw[bhC];exact aGQ agK mA)⟩)
 rw[<- Zd,hsn] at key;exact key
end
end AI
