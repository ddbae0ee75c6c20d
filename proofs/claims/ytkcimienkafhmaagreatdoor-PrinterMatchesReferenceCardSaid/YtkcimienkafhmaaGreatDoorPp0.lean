/- Part of a proof: see the last text. -/
import Derived.Calls
import Derived.Orders
import Derived.Below
import Derived.Laws.CopyRow
import Derived.Laws.AppendOwn
import Derived.Lib.Strings
import Derived.IntWalk
import Derived.LoopN
import Derived.Laws.StructEq
import Derived.KernelRfl
import Derived.Scope
set_option linter.all false
noncomputable section
open Array renaming all_eq_true_iff_forall_mem->bdZ,eq_empty_of_size_eq_zero->bgS,ext'->bbW,getD_eq_getD_getElem?->bcL,getElem?_eq_getElem->bcU,getElem?_eq_none->beQ,getElem?_eq_some_iff->aHQ,getElem?_push->bhH,getElem?_replicate->beF,getElem?_setIfInBounds_ne->bfC,getElem?_toList->bbE,length_toList->bbN,mapM_eq_mapM_toList->bhQ,mem_append->beT,mem_toList_iff->bdU,range->biY,replicate->bdG,toArray_toList->bcV,toList_append->bjH,toList_replicate->biP,toList_setIfInBounds->bhO
open Bool renaming and_eq_true->aUR,eq_iff_iff->bbR,false_eq_true->bbC,false_or->bhZ,not_true->bhY,or_eq_true->biS
open ByteArray renaming empty->VE,push->bkZ
open ForInStep renaming yield->bkR
open Go renaming sizeOf->bhM
open Go.Addr renaming add->biD
open Go.Builtin renaming append_->bdM,firstCells->bcX,lenOf->blL,len_->bfQ,max_->blV,min_->blW,zeroCells->bbY
open Go.Call renaming operands->bjL
open Go.Conv renaming bytesToString->bjS
open Go.Instr renaming box->bgT,build->bkN,buildSlice->biE,checkKey->bkY,entryStore->bkJ,extract->blI,fieldAt->bjK,fill->bkW,findKey->blN,findNow->beS,index->bcT,indexAt->bgV,keyThatStays->bjR,loadAt->bgH,lookup->bgL,makeMap->blO,makeSlice->bkQ,mapEntry->biZ,mapUpdate->biR,sameBits->bhP,sameNow->blM,slice->bkO,sliceAt->bfW,sliceBound->bkI,sliceBounds->bdY,storeAt->bjJ,sureAddr->bdK
open Go.IntKind renaming i64->beR
open Go.IntWalk renaming i64_in->bgM
open Go.Op renaming bytesLess->biL,operands->bbF,unary->bmA
open Go.Oper renaming looksAt->biO,wp->bhK
open Go.Question renaming appendCap->bhN
open Go.Region renaming binds->bgN,ready->bgO,wanted->bdX
open Go.Result renaming andThen_ok->baZ
open Go.Sem renaming run_bind->bbA,run_pure->bcG
open Go.World renaming cell?->bcM,cell?_of_block->beY,setRow->blU
open Int renaming natCast_nonneg->bjT,ofNat_le->bkC
open List renaming all_cons->bfK,all_eq_true->bcC,append_assoc->beJ,append_nil->bfX,drop_nil->blJ,eq_nil_of_length_eq_zero->bbD,ext_getElem?->beZ,foldl_cons->bkP,getD_eq_getElem?_getD->bcR,getElem?_append_left->aUY,getElem?_append_right->bcF,getElem?_concat_length->bdJ,getElem?_drop->bgE,getElem?_eq_getElem->atS,getElem?_eq_none_iff->bfT,getElem?_eq_some_iff->aHS,getElem?_map->bbS,getElem?_set->bkB,getElem?_set_ne->beH,getElem?_set_self->bdN,getElem?_take->beD,getElem?_toArray->bdQ,length_append->cZ,length_cons->amN,length_drop->aUZ,length_take->bbT,mapM_cons->bkX,mem_append->bcE,mem_cons->bbG,mem_cons_of_mem->bbP,mem_cons_self->bbU,mem_filter->bkS,mem_map->bfI,mem_of_getElem?->aUV,mem_of_mem_take->bcN,mem_range->bcZ,mem_toArray->biG,prefix_append->bgD,prefix_refl->bdT,range->bcB,rec->bmB,replicate->bdF,set_append_right->biU,size_toArray->bcW,take_nil->blK
open List.cons renaming inj->bjM
open Nat renaming add_assoc->bdW,add_comm->bfH,add_mul->bdL,add_zero->bcS,beq->bcA,beq_refl->bgK,ble->bfD,ble_eq_true_of_le->bdR,eq_of_beq_eq_true->bcI,le_of_ble_eq_true->aUX,le_of_lt->bjY,le_refl->aHT,le_succ_of_le->bkA,le_trans->bbM,lt_of_lt_of_le->aUS,lt_or_ge->bdS,lt_succ_self->bdH,lt_trichotomy->bjZ,mul_le_mul_right->bdE,ne_of_beq_eq_false->beO,sub_zero->bgI,testBit_or->blB,zero_add->aUU,zero_le->bcJ
open Option renaming bind_some->TC,getD_some->bfP,isSome_iff_exists->bfV,map_eq_some_iff->beP,map_some->bbB,rec->blC
open Option.some renaming inj->bbJ,injEq->aUQ
open UInt8 renaming ofNat->bgG
namespace AI
open Go Go.RowKit
inductive Own where
 |full
 |row (r sz:Nat)
 |lost
 |nil
 |nn
 |zero
 deriving DecidableEq,Inhabited
inductive AV where
 |sc (v:Value)
 |agg (cs:List AV)
 |DW (vs:List AV)
 |sl (own:Own) (n:Nat) (cs:List AV)
 |OG (id off n:Nat)
 |el (cs:List AV)
 |ptr (id off:Nat)
 |fn (f:Fn) (first caps:List AV)
 |ifc (t:TypeId) (v:AV)
 |mp (id:Nat)
 |any
 |raw (A:Option Addr) (n cap:Nat)
 deriving Inhabited
def scalar:Value->Bool
 |.bool _ | .int _ _ | .string _ | .nilIface | .nilFunc | .pointer none | .map none=>true
 |.tuple vs=>vs.size == 0
 |_=>false
def aH:Value->Bool
 |.bool _=>false
 |_=>true
def RC(z:Nat):Nat:=max z 1
def u8T:TypeId:=5
def auD(z:Nat)(T:TypeId):Prop:=z=0->T=u8T
inductive Rw where
 |gone
 |new
 |Q2 (g n cap sz:Nat)
def K3(x:Rw):Rw->Prop
 |.gone=>True
 |.new=>x=.new
 |.Q2 g n cap sz=>x=.Q2 g n cap sz\/x=.new\/∃g0 n0 Qk jD,x=.Q2 g0 n0 Qk jD/\n0 < n
def K3.refl(x:Rw):K3 x x:=by cases x<;>simp[K3]
def K3.trans{x y z:Rw}(h:K3 x y)(k:K3 y z):K3 x z:=by
 cases z with
 |gone=>trivial
 |new=>simp only[K3] at k;subst k;exact h
 |Q2 g n cap sz=>
  simp only[K3] at k;rcases k with rfl | rfl | ⟨g0,n0,Qk,jD,rfl,hlt⟩
  exact h;simp only[K3] at h;exact .inr (.inl h);simp only[K3] at h;rcases h with rfl | rfl | ⟨g1,n1,aTX,sz1,rfl,baL⟩
  exact .inr (.inr ⟨_,_,_,_,rfl,hlt⟩);exact .inr (.inl rfl);exact .inr (.inr ⟨_,_,_,_,rfl,by omega⟩)
structure Cx where
 base:Nat
 CG:List (Option Nat)
 rows:List Rw
 bad:Nat->Nat->Prop
def Cx.uQ(c:Cx)(g i:Nat):Prop:=some g∈c.CG\/(∃r n cap sz:Nat,c.rows[r]?=some (.Q2 g n cap sz)/\n*RC sz<=i/\i < cap*RC sz)\/c.bad g i
def RI(c:Cx)(w:World)(g i:Nat)(v:Value):Prop:=g < w.heap.size/\¬c.uQ g i/\w.cell? ⟨g,i,none⟩=some v
def abB(c:Cx)(own:Own)(g o n cap len:Nat):Prop:=match own with|.full=>cap=n|.row r sz=>o=0/\len=n*RC sz/\r < c.rows.length/\c.rows[r]?≠some .new/\∀g' n' cap' OI,c.rows[r]?=some (.Q2 g' n' cap' OI)->n<=n'/\(n'=n->g'=g/\cap'=cap/\OI=sz)|.lost=>True|.nil=>False|.nn=>True|.zero=>False
def wJ(c:Cx)(own:Own)(A:Option Addr)(cap:Nat):Prop:=match own with|.full=>cap=0|.row r sz=>cap=0/\r < c.rows.length/\(sz=0->A.isNone=true)|.lost=>True|.nil=>A.isNone=true|.nn=>A.isNone=false|.zero=>cap=0/\A.isNone=true
mutual
inductive Rp(c:Cx)(w:World):AV->Value->Prop where
 |sc {v:Value} (h:scalar v=true):Rp c w (.sc v) v
 |agg {cs:List AV}{vs:List Value} (h:CF c w cs vs):Rp c w (.agg cs) (.agg vs.toArray)
 |DW {cs:List AV}{vs:List Value} (h:CF c w cs vs):Rp c w (.DW cs) (.tuple vs.toArray)
 |sl0 {own:Own}{A:Option Addr}{cap:Nat} (h:wJ c own A cap):Rp c w (.sl own 0 []) (.slice A 0 cap)
 |MT {own:Own}{n cap g o:Nat}{cs:List AV} (hn:n<=cap) (h:A7 c w g o cs) (ho:abB c own g o n cap cs.length):Rp c w (.sl own n cs) (.slice (some ⟨g,o,none⟩) n cap)
 |OG {id off n g cap:Nat} (hn:n<=cap) (h:c.CG[id]?=some (some g)):Rp c w (.OG id off n) (.slice (some ⟨g,off,none⟩) n cap)
 |el {cs:List AV}{g o:Nat} (h:A7 c w g o cs):Rp c w (.el cs) (.pointer (some ⟨g,o,none⟩))
 |ptr {id off g:Nat} (h:c.CG[id]?=some (some g)):Rp c w (.ptr id off) (.pointer (some ⟨g,off,none⟩))
 |fn {f:Fn}{first caps:List AV}{us vs:List Value} (h1:CF c w first us) (h2:CF c w caps vs):Rp c w (.fn f first caps) (.func f us.toArray vs.toArray)
 |ifc {t:TypeId}{a:AV}{v:Value} (h:Rp c w a v):Rp c w (.ifc t a) (.iface t v)
 |mp {id g:Nat} (h:c.CG[id]?=some (some g)):Rp c w (.mp id) (.map (some g))
 |any {v:Value} (h:aH v=true):Rp c w .any v
 |raw {A:Option Addr}{n cap:Nat}:Rp c w (.raw A n cap) (.slice A n cap)
inductive CF(c:Cx)(w:World):List AV->List Value->Prop where
 |nil:CF c w [] []
 |cons {a:AV}{v:Value}{as:List AV}{vs:List Value} (h:Rp c w a v) (t:CF c w as vs):CF c w (a::as) (v::vs)
inductive A7(c:Cx)(w:World):Nat->Nat->List AV->Prop where
 |nil {g o:Nat}:A7 c w g o []
 |cons {g o:Nat}{a:AV}{v:Value}{as:List AV} (hv:RI c w g o v) (h:Rp c w a v) (t:A7 c w g (o+1) as):A7 c w g o (a::as)
end
structure Ext(c:Cx)(w:World)(c':Cx)(w':World):Prop where
 CG:c.CG <+: c'.CG
 IG:c.rows.length<=c'.rows.length
 rows:∀(r:Nat) y,r < c.rows.length->c'.rows[r]?=some y->∃x,c.rows[r]?=some x/\K3 x y
 jG:∀g i v,RI c w g i v->RI c' w' g i v
 below:Below c.base w w'
 base:c'.base=c.base
 bad:c'.bad=c.bad
 eQ:∀g,some g∈c'.CG->some g∈c.CG\/w.heap.size<=g
 fJ:∀(r:Nat) g n cap sz,c'.rows[r]?=some (.Q2 g n cap sz)->(∃(r0 n0 Qk jD:Nat),c.rows[r0]?=some (.Q2 g n0 Qk jD))\/w.heap.size<=g
 UN:∀k,k < w.heap.size->some k∉c.CG->(∀(r:Nat) n cap sz,c.rows[r]?≠some (.Q2 k n cap sz))->w'.heap[k]?=w.heap[k]?
def Ext.refl(c:Cx)(w:World):Ext c w c w:=⟨bdT _,aHT _,λ_ y _ h=>⟨y,h,K3.refl y⟩,λ_ _ _ h=>h,Below.refl _ _,rfl,rfl,λ_ h=>.inl h,λr _ n cap sz h=>.inl ⟨r,n,cap,sz,h⟩,λ_ _ _ _=>rfl⟩
def Ext.trans{c1 c2 c3:Cx}{w1 w2 w3:World}(h:Ext c1 w1 c2 w2)(k:Ext c2 w2 c3 w3):Ext c1 w1 c3 w3 :=
 ⟨h.CG.trans k.CG,bbM h.IG k.IG,λr z hr hz=>by
  obtain⟨y,hy,l2⟩:=k.rows r z (aUS hr h.IG) hz;obtain⟨x,hx,l1⟩:=h.rows r y hr hy;exact⟨x,hx,l1.trans l2⟩,λg i v hv=>k.jG g i v (h.jG g i v hv),h.below.trans (by have:=k.below;rw[h.base] at this;exact this),k.base.trans h.base,k.bad.trans h.bad,
  λg hg=>by
   rcases k.eQ g hg with h1 | h1
   exact h.eQ g h1;exact .inr (bbM h.below.size h1),
  λr g n cap sz hr=>by
   rcases k.fJ r g n cap sz hr with ⟨r0,n0,Qk,jD,h1⟩ | h1
   exact h.fJ r0 g n0 Qk jD h1;exact .inr (bbM h.below.size h1),
  λq hq hp hr=>by
   rw[k.UN q (aUS hq h.below.size) (λhm=>?_) (λr n cap sz hm=>?_),h.UN q hq hp hr];rcases h.eQ q hm with h1 | h1
   exact hp h1;omega;rcases h.fJ r q n cap sz hm with ⟨r0,n0,Qk,jD,h1⟩ | h1
   exact hr r0 n0 Qk jD h1;omega⟩
def Ext.get{c:Cx}{w:World}{c':Cx}{w':World}(h:Ext c w c' w'){id g:Nat}(e:c.CG[id]?=some (some g)):c'.CG[id]?=some (some g):=by obtain⟨t,ht⟩:=h.CG;rw[<- ht,aUY (aHS.1 e).1];exact e
structure Mon(c:Cx)(w:World)(c':Cx)(w':World):Prop where
 get:∀(id g:Nat),c.CG[id]?=some (some g)->c'.CG[id]?=some (some g)
 IG:c.rows.length<=c'.rows.length
 rows:∀(r:Nat) y,r < c.rows.length->c'.rows[r]?=some y->∃x,c.rows[r]?=some x/\K3 x y
 jG:∀g i v,RI c w g i v->RI c' w' g i v
def Ext.sN{c:Cx}{w:World}{c':Cx}{w':World}(h:Ext c w c' w'):Mon c w c' w':=⟨λ_ _ e=>h.get e,h.IG,h.rows,h.jG⟩
def abB.Dx{c:Cx}{w:World}{c':Cx}{w':World}(h:Mon c w c' w'){own:Own}{g o n cap len:Nat}(k:abB c own g o n cap len):abB c' own g o n cap len:=by
 cases own with
 |nil=>exact k
 |nn=>exact k
 |zero=>exact k
 |full=>exact k
 |lost=>trivial
 |row r sz=>
  obtain⟨k1,k2,k3,k4,k5⟩:=k;refine⟨k1,k2,aUS k3 h.IG,λe=>?_,λg' n' cap' OI e=>?_⟩;obtain⟨x,hx,hle⟩:=h.rows r _ k3 e;simp only[K3] at hle;subst hle;exact k4 hx;obtain⟨x,hx,hle⟩:=h.rows r _ k3 e;simp only[K3] at hle;rcases hle with rfl | rfl | ⟨g0,n0,Qk,jD,rfl,hlt⟩
  exact k5 _ _ _ _ hx;exact absurd hx k4;have:=(k5 _ _ _ _ hx).1;exact⟨by omega,λe=>by omega⟩
def wJ.Dx{c:Cx}{w:World}{c':Cx}{w':World}(h:Mon c w c' w'){own:Own}{A:Option Addr}{cap:Nat}(k:wJ c own A cap):wJ c' own A cap:=by cases own with|nil=>exact k|nn=>exact k|zero=>exact k|full=>exact k|lost=>trivial|row r sz=>exact⟨k.1,aUS k.2.1 h.IG,k.2.2⟩
def wJ.re{c:Cx}{own:Own}{A B:Option Addr}{cap:Nat}(h:wJ c own A cap)(hb:B.isNone=A.isNone):wJ c own B cap:=by cases own with|nil=>exact hb.trans h|nn=>exact hb.trans h|zero=>exact⟨h.1,hb.trans h.2⟩|full=>exact h|lost=>trivial|row r sz=>exact⟨h.1,h.2.1,λe=>hb.trans (h.2.2 e)⟩
mutual
def Rp.Dx{c:Cx}{w:World}{c':Cx}{w':World}(h:Mon c w c' w'){a:AV}{v:Value}(k:Rp c w a v):Rp c' w' a v:=by cases k with|sc h1=>exact .sc h1|agg h1=>exact .agg (CF.Dx h h1)|DW h1=>exact .DW (CF.Dx h h1)|sl0 h1=>exact .sl0 (h1.Dx h)|MT hn h1 ho=>exact .MT hn (A7.Dx h h1) (ho.Dx h)|OG hn h1=>exact .OG hn (h.get _ _ h1)|el h1=>exact .el (A7.Dx h h1)|ptr h1=>exact .ptr (h.get _ _ h1)|fn h1 h2=>exact .fn (CF.Dx h h1) (CF.Dx h h2)|ifc h1=>exact .ifc (Rp.Dx h h1)|mp h1=>exact .mp (h.get _ _ h1)|any h1=>exact .any h1|raw=>exact .raw
def CF.Dx{c:Cx}{w:World}{c':Cx}{w':World}(h:Mon c w c' w'){a:List AV}{v:List Value}(k:CF c w a v):CF c' w' a v:=by cases k with|nil=>exact .nil|cons h1 t=>exact .cons (Rp.Dx h h1) (CF.Dx h t)
def A7.Dx{c:Cx}{w:World}{c':Cx}{w':World}(h:Mon c w c' w'){g o:Nat}{a:List AV}(k:A7 c w g o a):A7 c' w' g o a:=by cases k with|nil=>exact .nil|cons hv h1 t=>exact .cons (h.jG _ _ _ hv) (Rp.Dx h h1) (A7.Dx h t)
end
def Rp.mono{c:Cx}{w:World}{c':Cx}{w':World}(h:Ext c w c' w'){a:AV}{v:Value}(k:Rp c w a v):Rp c' w' a v:=k.Dx h.sN
def CF.mono{c:Cx}{w:World}{c':Cx}{w':World}(h:Ext c w c' w'){a:List AV}{v:List Value}(k:CF c w a v):CF c' w' a v:=k.Dx h.sN
def A7.mono{c:Cx}{w:World}{c':Cx}{w':World}(h:Ext c w c' w'){g o:Nat}{a:List AV}(k:A7 c w g o a):A7 c' w' g o a:=k.Dx h.sN
section lists
variable {c:Cx}{w:World}
def CF.len{as:List AV}{vs:List Value}(h:CF c w as vs):vs.length=as.length:=by induction as generalizing vs with|nil=>cases h;rfl|cons a as ih=>cases h with | cons _ t=>simp[ih t]
def CF.get{as:List AV}{vs:List Value}(h:CF c w as vs){i:Nat}{a:AV}(e:as[i]?=some a):∃v,vs[i]?=some v/\Rp c w a v:=by
 induction as generalizing vs i with
 |nil=>simp at e
 |cons b as ih=>
  cases h with
  |cons h1 t=>
   cases i with|zero=>simp at e;subst e;exact⟨_,rfl,h1⟩|succ i=>simp at e ⊢;exact ih t e
def CF.aKM{as:List AV}{vs:List Value}(hl:vs.length=as.length)(h:∀(i:Nat) a v,as[i]?=some a->vs[i]?=some v->Rp c w a v):CF c w as vs:=by
 induction as generalizing vs with
 |nil=>cases vs with | nil=>exact .nil | cons=>simp at hl
 |cons a as ih=>
  cases vs with|nil=>simp at hl|cons v vs=>exact .cons (h 0 a v rfl rfl) (ih (by simpa using hl) (λi a v e1 e2=>h (i+1) a v (by simpa using e1) (by simpa using e2)))
def CF.append{as bs:List AV}{us vs:List Value}(h:CF c w as us)(k:CF c w bs vs):CF c w (as++bs) (us++vs):=by induction as generalizing us with|nil=>cases h;exact k|cons a as ih=>cases h with | cons h1 t=>exact .cons h1 (ih t)
def CF.set{as:List AV}{vs:List Value}(h:CF c w as vs){a:AV}{v:Value}(k:Rp c w a v)(i:Nat):CF c w (as.set i a) (vs.set i v):=by
 induction as generalizing vs i with
 |nil=>cases h;exact .nil
 |cons b as ih=>
  cases h with
  |cons h1 t=>
   cases i with|zero=>exact .cons k t|succ i=>exact .cons h1 (ih t i)
def CF.drop{as:List AV}{vs:List Value}(h:CF c w as vs)(i:Nat):CF c w (as.drop i) (vs.drop i):=by
 induction as generalizing vs i with
 |nil=>cases h;simpa using CF.nil
 |cons b as ih=>
  cases h with
  |cons h1 t=>
   cases i with|zero=>exact .cons h1 t|succ i=>exact ih t i
def CF.take{as:List AV}{vs:List Value}(h:CF c w as vs)(i:Nat):CF c w (as.take i) (vs.take i):=by
 induction as generalizing vs i with
 |nil=>cases h;simpa using CF.nil
 |cons b as ih=>
  cases h with
  |cons h1 t=>
   cases i with|zero=>exact .nil|succ i=>exact .cons h1 (ih t i)
def CF.replicate{a:AV}{v:Value}(h:Rp c w a v)(n:Nat):CF c w (bdF n a) (bdF n v):=by induction n with|zero=>exact .nil|succ n ih=>exact .cons h ih
def A7.get{as:List AV}{g o:Nat}(h:A7 c w g o as){i:Nat}{a:AV}(e:as[i]?=some a):∃v,RI c w g (o+i) v/\Rp c w a v:=by
 induction as generalizing o i with
 |nil=>simp at e
 |cons b as ih=>
  cases h with
  |cons hv h1 t=>
   cases i with
   |zero=>simp at e;subst e;exact⟨_,hv,h1⟩
   |succ i=>
    simp at e;have:=ih t e;rwa[show o+1+i=o+(i+1) from by omega] at this
def A7.drop{as:List AV}{g o:Nat}(h:A7 c w g o as)(i:Nat):A7 c w g (o+i) (as.drop i):=by
 induction as generalizing o i with
 |nil=>simpa using A7.nil
 |cons b as ih=>
  cases i with
  |zero=>exact h
  |succ i=>
   cases h with
   |cons hv h1 t=>
    have:=ih t i;rw[show o+1+i=o+(i+1) from by omega] at this;exact this
def A7.take{as:List AV}{g o:Nat}(h:A7 c w g o as)(i:Nat):A7 c w g o (as.take i):=by
 induction as generalizing o i with
 |nil=>simpa using A7.nil
 |cons b as ih=>
  cases i with|zero=>exact .nil|succ i=>cases h with | cons hv h1 t=>exact .cons hv h1 (ih t i)
def A7.vals{as:List AV}{g o:Nat}(h:A7 c w g o as):∃vs,CF c w as vs/\∀(i:Nat) v,vs[i]?=some v->RI c w g (o+i) v:=by
 induction as generalizing o with
 |nil=>exact⟨[],.nil,λi v e=>by simp at e⟩
 |cons b as ih=>
  cases h with
  |cons hv h1 t=>
   obtain⟨vs,hr,Mf⟩:=ih t;refine⟨_::vs,.cons h1 hr,λi v e=>?_⟩;cases i with
   |zero=>simp at e;subst e;exact hv
   |succ i=>
    have:=Mf i v (by simpa using e)
    rwa[show o+1+i=o+(i+1) from by omega] at this
def A7.R8{as:List AV}{vs:List Value}{g o:Nat}(h:CF c w as vs)(hv:∀(i:Nat) v,vs[i]?=some v->RI c w g (o+i) v):A7 c w g o as:=by
 induction as generalizing vs o with
 |nil=>exact .nil
 |cons b as ih=>
  cases h with
  |cons h1 t=>
   refine .cons (hv 0 _ rfl) h1 (ih t (λi v e=>?_));have:=hv (i+1) v (by simpa using e)
   rwa[show o+(i+1)=o+1+i from by omega] at this
end lists
end AI
namespace AI
open Go Go.RowKit
inductive AF where
 |cells (cs:List AV)
 |map (es:List (Value×AV×Nat)) (clock:Nat)
 |Fk (T:TypeId) (id:Nat) (cs:List AV)
structure AS where
 h:List (Nat×AF)
 nx:Nat
 F:List (Nat×Nat)
 nr:Nat
def look(id:Nat):List (Nat×AF)->Option AF
 |[]=>none
 |e::l=>match bcA e.1 id with|true=>some e.2|false=>look id l
def wH(id:Nat)(b:AF):List (Nat×AF)->List (Nat×AF)
 |[]=>[]
 |e::l=>match bcA e.1 id with|true=>(id,b)::l|false=>e::wH id b l
def OR(n:Nat):List (Nat×AF)->List (Nat×AF)
 |[]=>[]
 |e::l=>match bfD n e.1 with|true=>OR n l|false=>e::l
def AS.get(s:AS)(id:Nat):Option AF:=look id s.h
def AS.new(s:AS)(b:AF):AS:=⟨(s.nx,b)::s.h,s.nx+1,s.F,s.nr⟩
def AS.put(s:AS)(id:Nat)(b:AF):AS:=⟨wH id b s.h,s.nx,s.F,s.nr⟩
def AS.cut(s:AS)(n:Nat):AS:=⟨OR n s.h,s.nx,s.F,s.nr⟩
def Kr:List (Nat×AF)->Nat->Prop
 |[],_=>True
 |e::l,n=>e.1 < n/\Kr l e.1
def beq_true{a b:Nat}(h:bcA a b=true):a=b:=bcI h
def beq_false{a b:Nat}(h:bcA a b=false):a≠b:=beO h
def aQ{l:List (Nat×AF)}{n id:Nat}{b:AF}(hd:Kr l n)(h:look id l=some b):id < n:=by
 induction l generalizing n with
 |nil=>cases h
 |cons e l ih=>
  simp only[look] at h;split at h;rename_i hb;rw[<- beq_true hb];exact hd.1;have:=ih hd.2 h;have:=hd.1;omega
def Kr.mono{l:List (Nat×AF)}{n m:Nat}(h:Kr l n)(hm:n<=m):Kr l m:=by cases l with|nil=>trivial|cons e l=>exact⟨aUS h.1 hm,h.2⟩
def xF{l:List (Nat×AF)}{n k:Nat}(h:Kr l n):Kr (OR k l) n:=by
 induction l generalizing n with
 |nil=>trivial
 |cons e l ih=>
  simp only[OR];split;exact ih (h.2.mono (bjY h.1));exact h
def VB{l:List (Nat×AF)}{n k id:Nat}{b:AF}(hd:Kr l n)(h:look id (OR k l)=some b):look id l=some b:=by
 induction l generalizing n with
 |nil=>exact h
 |cons e l ih=>
  simp only[OR] at h;split at h;have h1:=ih hd.2 h;have h2:=aQ hd.2 h1;simp only[look];split;rename_i hb;have:=beq_true hb;omega;exact h1;exact h
def gF{l:List (Nat×AF)}{n id:Nat}{b:AF}(h:Kr l n):Kr (wH id b l) n:=by
 induction l generalizing n with
 |nil=>trivial
 |cons e l ih=>
  simp only[wH];split;rename_i hb;have:=beq_true hb;subst this;exact h;exact⟨h.1,ih h.2⟩
def gG{l:List (Nat×AF)}{id SI:Nat}{b b':AF}(h:look SI (wH id b l)=some b'):(SI=id/\b'=b)\/(SI≠id/\look SI l=some b'):=by
 induction l with
 |nil=>cases h
 |cons e l ih=>
  simp only[wH] at h;split at h;rename_i hb;have Qp:=beq_true hb;simp only[look] at h ⊢;split at h;rename_i h1;cases h;exact .inl ⟨(beq_true h1).symm,rfl⟩;rename_i h1;have hne:=beq_false h1;refine .inr ⟨λe=>hne e.symm,?_⟩;split;rename_i h2;exact absurd (Qp.symm.trans (beq_true h2)) hne;exact h;rename_i hb;have Qp:=beq_false hb;simp only[look] at h ⊢;split at h;rename_i h1;cases h;refine .inr ⟨λe'=>Qp ((beq_true h1).trans e'),rfl⟩;rename_i h1;rcases ih h with h2 | ⟨h2,h3⟩
  exact .inl h2;exact .inr ⟨h2,h3⟩
def DT(r:Nat):List (Nat×Nat)->Option Nat
 |[]=>none
 |x::l=>match bcA x.1 r with|true=>some x.2|false=>DT r l
def ahQ(r n:Nat):List (Nat×Nat)->List (Nat×Nat)
 |[]=>[]
 |x::l=>match bcA x.1 r with|true=>(r,n)::l|false=>x::ahQ r n l
def lF{r n r' k:Nat}{l:List (Nat×Nat)}(h:DT r' (ahQ r n l)=some k):(r'=r/\k=n/\(DT r l).isSome=true)\/(r'≠r/\DT r' l=some k):=by
 induction l with
 |nil=>cases h
 |cons x l ih=>
  simp only[ahQ] at h;split at h;rename_i hb;have hx:=beq_true hb;simp only[DT] at h ⊢;split at h;rename_i h1;cases h;refine .inl ⟨(beq_true h1).symm,rfl,?_⟩;rw[hb];rfl;rename_i h1;have hne:=beq_false h1;refine .inr ⟨λe=>hne e.symm,?_⟩;split;rename_i h2;exact absurd (hx.symm.trans (beq_true h2)) hne;exact h;rename_i hb;have hx:=beq_false hb;simp only[DT] at h ⊢;split at h;rename_i h1;cases h;exact .inr ⟨λe=>hx ((beq_true h1).trans e),rfl⟩;rename_i h1;rcases ih h with ⟨h2,h3,h4⟩ | ⟨h2,h3⟩
  refine .inl ⟨h2,h3,?_⟩;rw[hb];exact h4;exact .inr ⟨h2,h3⟩
inductive Mb(c:Cx)(w:World):List (Value×AV×Nat)->List MapEntry->Prop where
 |nil:Mb c w [] []
 |cons {k:Value}{a:AV}{v:Value}{b:Nat}{es:List (Value×AV×Nat)}{fs:List MapEntry} (h:Rp c w a v) (t:Mb c w es fs):Mb c w ((k,a,b)::es) (⟨k,v,b⟩::fs)
inductive Ep(c:Cx)(w:World):AF->Obj->Prop where
 |Ik {cs:List AV}{vs:List Value}{T:TypeId} (ext:List Value) (h:CF c w cs vs):Ep c w (.cells cs) (.cells (vs++ext).toArray T (0,0))
 |map {es:List (Value×AV×Nat)}{fs:List MapEntry}{clock:Nat} (h:Mb c w es fs):Ep c w (.map es clock) (.map fs.toArray clock)
 |Fk {cs:List AV}{vs:List Value}{T:TypeId}{id:Nat}{p:Value} (hp:p=.pointer none\/Rp c w (.ptr id 0) p) (h:CF c w cs vs):Ep c w (.Fk T id cs) (.cells (p::vs).toArray T (0,0))
def Ep.cells{c:Cx}{w:World}{cs:List AV}{vs:List Value}{T:TypeId}(h:CF c w cs vs):Ep c w (.cells cs) (.cells vs.toArray T (0,0)):=by have:=Ep.Ik (T:=T) [] h;rwa[bfX] at this
def Mb.Dx{c:Cx}{w:World}{c':Cx}{w':World}(h:Mon c w c' w'){es:List (Value×AV×Nat)}{fs:List MapEntry}(k:Mb c w es fs):Mb c' w' es fs:=by induction k with|nil=>exact .nil|cons h1 _ ih=>exact .cons (h1.Dx h) ih
def Ep.Dx{c:Cx}{w:World}{c':Cx}{w':World}(h:Mon c w c' w'){b:AF}{o:Obj}(k:Ep c w b o):Ep c' w' b o:=by cases k with|Ik ext h1=>exact .Ik ext (h1.Dx h)|map h1=>exact .map (h1.Dx h)|Fk hp h1=>exact .Fk (hp.imp id λk=>k.Dx h) (h1.Dx h)
def Ep.mono{c:Cx}{w:World}{c':Cx}{w':World}(h:Ext c w c' w'){b:AF}{o:Obj}(k:Ep c w b o):Ep c' w' b o:=k.Dx h.sN
abbrev AP:=Nat->Option (List AV)
def Vo(G:AP)(c:Cx)(w:World):Prop:=∀g cs,G g=some cs->(some g∉c.CG/\∀(r:Nat) n cap sz,c.rows[r]?≠some (.Q2 g n cap sz))/\∃vs T f,w.heap[g]?=some (.cells vs T f)/\vs.size=cs.length
def Vo.mono{G:AP}{c c':Cx}{w w':World}(e:Ext c w c' w')(h:Vo G c w):Vo G c' w':=by
 intro g cs hg;obtain⟨⟨h1,h2⟩,vs,T,f,h3,h4⟩:=h g cs hg;have hlt:=(aHQ.1 h3).1;refine⟨⟨λhm=>?_,λr n cap sz hr=>?_⟩,vs,T,f,?_,h4⟩;rcases e.eQ g hm with h | h
 exact h1 h;omega;rcases e.fJ r g n cap sz hr with ⟨r0,n0,Qk,jD,h⟩ | h
 exact h2 _ _ _ _ h;omega;rw[e.UN g hlt h1 h2];exact h3
def Vo.sub{G:AP}{c c':Cx}{w:World}(h:Vo G c w)(hp:∀g,some g∈c'.CG->some g∈c.CG)(hr:∀(r:Nat) g n cap sz,c'.rows[r]?=some (.Q2 g n cap sz)->∃(r0 n0 Qk jD:Nat),c.rows[r0]?=some (.Q2 g n0 Qk jD)):Vo G c' w:=by intro g cs hg;obtain⟨⟨h1,h2⟩,h3⟩:=h g cs hg;exact⟨⟨λhm=>h1 (hp g hm),λr n cap sz e=>by obtain⟨r0,n0,Qk,jD,e0⟩:=hr r g n cap sz e;exact h2 _ _ _ _ e0⟩,h3⟩
def Vo.aRL{G:AP}{c:Cx}{w:World}(h:Vo G c w){b:Nat}{x:Nat->Nat->Prop}:Vo G ⟨b,[],[],x⟩ w:=h.sub (λg hm=>by cases hm) (λr g n cap sz e=>by simp at e)
def Vo.none{c:Cx}{w:World}:Vo (λ_=>none) c w:=λg cs hg=>by cases hg
structure St(G:AP)(c:Cx)(w:World)(s:AS):Prop where
 len:s.nx=c.CG.length
 desc:Kr s.h s.nx
 nodup:∀(i j g:Nat),c.CG[i]?=some (some g)->c.CG[j]?=some (some g)->i=j
 low:∀g,some g∈c.CG->c.base<=g
 box:∀(id:Nat) g b,c.CG[id]?=some (some g)->s.get id=some b->∃o,w.heap[g]?=some o/\Ep c w b o
 IG:s.nr=c.rows.length
 row:∀(r:Nat) g n cap sz,c.rows[r]?=some (.Q2 g n cap sz)->(∀i,¬c.bad g i)/\c.base<=g/\some g∉c.CG/\n<=cap/\∃vs T,(∃f,w.heap[g]?=some (.cells vs T f)/\f.2<=n*RC sz)/\vs.size=cap*RC sz/\auD sz T
 H8:∀(r n:Nat),DT r s.F=some n->(c.rows[r]?=some .new/\n=0)\/∃g cap sz,c.rows[r]?=some (.Q2 g n cap sz)
 NM:∀g,some g∈c.CG->g < w.heap.size
 Nz:∀g i,c.bad g i->g < w.heap.size
 H7:∀(r r':Nat) g n cap sz n' cap' OI,c.rows[r]?=some (.Q2 g n cap sz)->c.rows[r']?=some (.Q2 g n' cap' OI)->r=r'
 Mr:∀g cs,G g=some cs->A7 c w g 0 cs
 RU:c.base<=w.heap.size
 Od:Vo G c w
structure S4(w w':World)(K:Nat->Prop):Prop where
 os:w'.os=w.os
 tape:w'.tape=w.tape
 output:w'.output=w.output
 size:w.heap.size<=w'.heap.size
 block:∀k,k < w.heap.size->¬K k->w'.heap[k]?=w.heap[k]?
def S4.cell{w w':World}{K:Nat->Prop}(h:S4 w w' K){g i:Nat}(hg:g < w.heap.size)(hk:¬K g):w'.cell? ⟨g,i,none⟩=w.cell? ⟨g,i,none⟩ :=
 beY (w:=w) (h.block g hg hk)
def S4.below{w w':World}{K:Nat->Prop}(h:S4 w w' K){B:Nat}(hB:B<=w.heap.size)(hK:∀k,K k->B<=k):Below B w w' :=
 ⟨h.os,h.tape,h.output,h.size,λk hk=>h.block k (by omega) (λe=>by have:=hK k e;omega)⟩
def Vo.chg{G:AP}{c:Cx}{w w':World}(h:Vo G c w)(k:S4 w w' (λ_=>False)):Vo G c w':=by intro g cs hg;obtain⟨h1,vs,T,f,h3,h4⟩:=h g cs hg;exact⟨h1,vs,T,f,by rw[k.block g (aHQ.1 h3).1 not_false];exact h3,h4⟩
def agU{l:List Nat}(h:l.Nodup){i j g:Nat}(hi:l[i]?=some g)(hj:l[j]?=some g):i=j:=by
 obtain⟨li,ei⟩:=aHS.1 hi;obtain⟨lj,ej⟩:=aHS.1 hj;have hp:=List.pairwise_iff_getElem.1 h;rcases bjZ i j with hlt | he | hlt
 exact absurd (ei.trans ej.symm) (hp i j li lj hlt);exact he;exact absurd (ej.trans ei.symm) (hp j i lj li hlt)
section
variable {G:AP}{c:Cx}{w:World}{s:AS}
def St.NL(h:St G c w s){g:Nat}(hg:some g∈c.CG):g < w.heap.size:=h.NM g hg
def St.Pq(h:St G c w s){r g n cap sz:Nat}(hr:c.rows[r]?=some (.Q2 g n cap sz)):g < w.heap.size:=by obtain⟨_,_,_,_,vs,T,⟨f,ho,_⟩,_⟩:=h.row r g n cap sz hr;exact(aHQ.1 ho).1
def St.fR(h:St G c w s){g i:Nat}(hs:c.uQ g i):g < w.heap.size:=by
 rcases hs with hs | ⟨r,n,cap,sz,hr,_⟩ | hs
 exact h.NL hs;exact h.Pq hr;exact h.Nz g i hs
def St.same(h:St G c w s){w':World}(k:S4 w w' (λ_=>False)):Ext c w c w'/\St G c w' s:=by have e:Ext c w c w':=⟨bdT _,aHT _,λ_ y _ h=>⟨y,h,K3.refl y⟩,λg i v hv=>⟨aUS hv.1 k.size,hv.2.1,by rw[k.cell hv.1 id];exact hv.2.2⟩,k.below h.RU (λ_ h=>h.elim),rfl,rfl,λ_ h=>.inl h,λr _ n cap sz h=>.inl ⟨r,n,cap,sz,h⟩,λq hq _ _=>k.block q hq not_false⟩;refine⟨e,⟨h.len,h.desc,h.nodup,h.low,λid g b h1 h2=>?_,h.IG,λr g n cap sz hr=>?_,h.H8,λg hg=>aUS (h.NM g hg) k.size,λg i hb=>aUS (h.Nz g i hb) k.size,h.H7,λg cs hg=>(h.Mr g cs hg).mono e,bbM h.RU k.size,h.Od.mono e⟩⟩;obtain⟨o,ho,hb⟩:=h.box id g b h1 h2;exact⟨o,by rw[k.block g (aHQ.1 ho).1 not_false];exact ho,hb.mono e⟩;obtain⟨Me,h2,h3,h4,vs,T,⟨f,ho,hf⟩,h5⟩:=h.row r g n cap sz hr;exact⟨Me,h2,h3,h4,vs,T,⟨f,by rw[k.block g (aHQ.1 ho).1 not_false];exact ho,hf⟩,h5⟩
def OQ(w:World)(o:Obj):S4 w { w with heap:=w.heap.push o } (λ_=>False) :=
 ⟨rfl,rfl,rfl,by simp,λk hk _=>by simp[bhH];intro h;omega⟩
def Tt(w:World):S4 w { w with drawn:=w.drawn+1 } (λ_=>False):=⟨rfl,rfl,rfl,aHT _,λ_ _ _=>rfl⟩
def tJ(w:World)(o:Obj):({ w with heap:=w.heap.push o }:World).heap[w.heap.size]?=some o:=by simp
def St.aBD(h:St G c w s)(vs:List Value)(T:TypeId){i:Nat}{v:Value}(hv:vs[i]?=some v):RI c { w with heap:=w.heap.push (.cells vs.toArray T) } w.heap.size i v:=by refine⟨by simp,λhs=>?_,?_⟩;have:=h.fR hs;omega;simp[bcM,hv]
def St.new(h:St G c w s){b:AF}{o:Obj}(hb:Ep c w b o) :
   Ext c w { c with CG:=c.CG++[some w.heap.size] } { w with heap:=w.heap.push o }/\St G { c with CG:=c.CG++[some w.heap.size] } { w with heap:=w.heap.push o } (s.new b):=by
 have k:=OQ w o
 have e:Ext c w { c with CG:=c.CG++[some w.heap.size] } { w with heap:=w.heap.push o }:=by
  refine⟨bgD _ _,aHT _,λ_ y _ h=>⟨y,h,K3.refl y⟩,λg i v hv=>⟨aUS hv.1 k.size,λhs=>?_,by rw[k.cell hv.1 id];exact hv.2.2⟩,k.below h.RU (λ_ h=>h.elim),rfl,rfl,λg hg=>(bcE.1 hg).imp id (λh=>by simp at h;omega),λr _ n cap sz h=>.inl ⟨r,n,cap,sz,h⟩,λq hq _ _=>k.block q hq not_false⟩;rcases hs with hs | hs
  rcases bcE.1 hs with hs | hs
  exact hv.2.1 (.inl hs);have h0:=hv.1;simp at hs;omega;exact hv.2.1 (.inr hs)
 refine⟨e,⟨by simp[AS.new,h.len],⟨bdH _,h.desc⟩,?_,?_,λid g b' h1 h2=>?_,h.IG,λr g n cap sz hr=>?_,h.H8,λg hg=>?_,λg i hb=>aUS (h.Nz g i hb) k.size,h.H7,λg cs hg=>(h.Mr g cs hg).mono e,by simp;exact bkA h.RU,h.Od.mono e⟩⟩;intro i j g h1 h2;by_cases hi:i < c.CG.length<;>by_cases hj:j < c.CG.length
 rw[aUY hi] at h1;rw[aUY hj] at h2;exact h.nodup i j g h1 h2;rw[aUY hi] at h1;rw[bcF (by omega)] at h2;have:=h.NL (aUV h1);cases hk:j - c.CG.length with|zero=>rw[hk] at h2;simp at h2;omega|succ n=>rw[hk] at h2;simp at h2
 rw[aUY hj] at h2;rw[bcF (by omega)] at h1;have:=h.NL (aUV h2);cases hk:i - c.CG.length with|zero=>rw[hk] at h1;simp at h1;omega|succ n=>rw[hk] at h1;simp at h1
 have e1:=(aHS.1 h1).1;have e2:=(aHS.1 h2).1;simp at e1 e2;omega;intro g hg;rcases bcE.1 hg with hg | hg
 exact h.low g hg;simp at hg;subst hg;exact h.RU;simp only[AS.get,AS.new,look] at h2;split at h2;rename_i Qp;cases h2;have aVN:id=c.CG.length:=by rw[<- h.len];exact(beq_true Qp).symm
 subst aVN;rw[bdJ] at h1;cases h1;exact⟨o,tJ w o,hb.mono e⟩;have hlt:=aQ h.desc h2;rw[aUY (by rw[<- h.len];exact hlt)] at h1;obtain⟨o',ho,Qp⟩:=h.box id g b' h1 h2;exact⟨o',by rw[k.block g (aHQ.1 ho).1 not_false];exact ho,Qp.mono e⟩;obtain⟨Me,h2,h3,h4,vs,T,⟨f,ho,hf⟩,h5⟩:=h.row r g n cap sz hr;refine⟨Me,h2,?_,h4,vs,T,⟨f,by rw[k.block g (aHQ.1 ho).1 not_false];exact ho,hf⟩,h5⟩;intro hm;rcases bcE.1 hm with hm | hm
 exact h3 hm;have:=(aHQ.1 ho).1;simp at hm;omega;rcases bcE.1 hg with hg | hg
 have:=h.NM g hg;simp;omega;simp at hg;subst hg;simp
def St.put(h:St G c w s){id g:Nat}{b:AF}{o:Obj}{w':World}(hid:c.CG[id]?=some (some g))(k:S4 w w' (λx=>x=g))(hw:w'.heap[g]?=some o)(hb:Ep c w b o) :
   Ext c w c w'/\St G c w' (s.put id b):=by
 have hgm:some g∈c.CG:=aUV hid
 have e:Ext c w c w':=by refine⟨bdT _,aHT _,λ_ y _ h=>⟨y,h,K3.refl y⟩,λg' i v hv=>⟨aUS hv.1 k.size,hv.2.1,?_⟩,k.below h.RU (λx hx=>by rw[hx];exact h.low g hgm),rfl,rfl,λ_ h=>.inl h,λr _ n cap sz h=>.inl ⟨r,n,cap,sz,h⟩,λq hq hp _=>k.block q hq (λe=>hp (by rw[e];exact hgm))⟩;rw[k.cell hv.1 (λe=>hv.2.1 (.inl (by rw[e];exact hgm)))];exact hv.2.2
 refine⟨e,⟨h.len,gF h.desc,h.nodup,h.low,λSI g' b' h1 h2=>?_,h.IG,λr g' n cap sz hr=>?_,h.H8,λg hg=>aUS (h.NM g hg) k.size,λg i hb=>aUS (h.Nz g i hb) k.size,h.H7,λg' cs hg=>(h.Mr g' cs hg).mono e,bbM h.RU k.size,h.Od.mono e⟩⟩;rcases gG h2 with ⟨rfl,rfl⟩ | ⟨hii,h3⟩
 rw[hid] at h1;cases h1;exact⟨o,hw,hb.mono e⟩;obtain⟨o',ho,Qp⟩:=h.box SI g' b' h1 h3
 have hne:¬g'=g:=λhg=>by
  subst hg;exact hii (h.nodup _ _ _ h1 hid)
 exact⟨o',by rw[k.block g' (aHQ.1 ho).1 hne];exact ho,Qp.mono e⟩;obtain⟨Me,h2,h3,h4,vs,T,⟨f,ho,hf⟩,h5⟩:=h.row r g' n cap sz hr;exact⟨Me,h2,h3,h4,vs,T,⟨f,by rw[k.block g' (aHQ.1 ho).1 (λe=>h3 (by rw[e];exact hgm))];exact ho,hf⟩,h5⟩
def AS.tok(s:AS):AS:=⟨s.h,s.nx,(s.nr,0)::s.F,s.nr+1⟩
def uL{c:Cx}{r:Nat}{x:Rw}(h:(c.rows++[Rw.new])[r]?=some x):(r < c.rows.length/\c.rows[r]?=some x)\/(r=c.rows.length/\x=.new):=by
 by_cases hr:r < c.rows.length;rw[aUY hr] at h;exact .inl ⟨hr,h⟩;have hl:=(aHS.1 h).1;simp at hl;have:r=c.rows.length:=by omega
 subst this;rw[bdJ] at h;exact .inr ⟨rfl,(bbJ h).symm⟩
def St.tok(h:St G c w s):Ext c w { c with rows:=c.rows++[.new] } w/\St G { c with rows:=c.rows++[.new] } w s.tok:=by
 have hb:∀(r g n cap sz:Nat),(c.rows++[Rw.new])[r]?=some (.Q2 g n cap sz)->c.rows[r]?=some (.Q2 g n cap sz):=λr g n cap sz hr=>by
  rcases uL hr with h1 | h1
  exact h1.2;cases h1.2
 have e:Ext c w { c with rows:=c.rows++[.new] } w:=by
  refine⟨bdT _,by simp,λr y hr hy=>?_,λg i v hv=>⟨hv.1,λhs=>?_,hv.2.2⟩,Below.refl _ _,rfl,rfl,λ_ h=>.inl h,λr g n cap sz hr=>.inl ⟨r,n,cap,sz,hb _ _ _ _ _ hr⟩,λ_ _ _ _=>rfl⟩;rcases uL hy with h1 | h1
  exact⟨y,h1.2,K3.refl y⟩;omega;rcases hs with hs | ⟨r,n,cap,sz,hr,h1,h2⟩ | hs
  exact hv.2.1 (.inl hs);exact hv.2.1 (.inr (.inl ⟨r,n,cap,sz,hb _ _ _ _ _ hr,h1,h2⟩));exact hv.2.1 (.inr (.inr hs))
 refine⟨e,⟨h.len,h.desc,h.nodup,h.low,λid g b h1 h2=>?_,by simp[AS.tok,h.IG],λr g n cap sz hr=>h.row r g n cap sz (hb _ _ _ _ _ hr),λr n hr=>?_,h.NM,h.Nz,λr r' g n cap sz n' cap' OI h1 h2=>h.H7 r r' g _ _ _ _ _ _ (hb _ _ _ _ _ h1) (hb _ _ _ _ _ h2),λg cs hg=>(h.Mr g cs hg).mono e,h.RU,h.Od.mono e⟩⟩;obtain⟨o,ho,rQ⟩:=h.box id g b h1 h2;exact⟨o,ho,rQ.mono e⟩;simp only[AS.tok,DT] at hr;split at hr;rename_i h1;have:=beq_true h1;rw[h.IG] at this;subst this;cases hr;exact .inl ⟨bdJ,rfl⟩;have h2:=h.H8 r n hr
 have hlt:r < c.rows.length:=by
  rcases h2 with h2 | ⟨g,cap,sz,h2⟩
  exact(aHS.1 h2.1).1;exact(aHS.1 h2).1
 simp only;rw[aUY hlt];exact h2
def St.cut(h:St G c w s)(n:Nat):St G c w (s.cut n) :=
 ⟨h.len,xF h.desc,h.nodup,h.low,λid g b h1 h2=>h.box id g b h1 (VB h.desc h2),h.IG,h.row,h.H8,h.NM,h.Nz,h.H7,h.Mr,h.RU,h.Od⟩
end
def AS.hold(s:AS):List AF->AS
 |[]=>s
 |b::l=>(s.new b).hold l
section
variable {G:AP}{c:Cx}{w:World}{s:AS}
def TL{l:List (Option Nat)}{g:Nat}:some g∈l++[none]↔some g∈l:=by simp
def St.hole(h:St G c w s)(b:AF):∃c',Ext c w c' w/\St G c' w (s.new b)/\c'.CG=c.CG++[none]:=by
 refine⟨{ c with CG:=c.CG++[none] },?_⟩
 have e:Ext c w { c with CG:=c.CG++[none] } w:=by
  refine⟨bgD _ _,aHT _,λ_ y _ h=>⟨y,h,K3.refl y⟩,λg i v hv=>⟨hv.1,λhs=>?_,hv.2.2⟩,Below.refl _ _,rfl,rfl,λg hg=>.inl (TL.1 hg),λr _ n cap sz h=>.inl ⟨r,n,cap,sz,h⟩,λ_ _ _ _=>rfl⟩;rcases hs with hs | hs
  exact hv.2.1 (.inl (TL.1 hs));exact hv.2.1 (.inr hs)
 have get:∀(i g:Nat),(c.CG++[none])[i]?=some (some g)->c.CG[i]?=some (some g):=by intro i g hi;by_cases hl:i < c.CG.length;rwa[aUY hl] at hi;rw[bcF (by omega)] at hi;cases hk:i - c.CG.length with|zero=>rw[hk] at hi;simp at hi|succ n=>rw[hk] at hi;simp at hi
 refine⟨e,⟨by simp[AS.new,h.len],⟨bdH _,h.desc⟩,λi j g h1 h2=>h.nodup i j g (get i g h1) (get j g h2),λg hg=>h.low g (TL.1 hg),λid g b' h1 h2=>?_,h.IG,λr g n cap sz hr=>?_,h.H8,λg hg=>h.NM g (TL.1 hg),h.Nz,h.H7,λg cs hg=>(h.Mr g cs hg).mono e,h.RU,h.Od.mono e⟩,rfl⟩;have h1:=get id g h1;simp only[AS.get,AS.new,look] at h2;split at h2;rename_i Qp;exfalso;have:=(aHS.1 h1).1;have h3:=beq_true Qp;have h4:=h.len;omega;obtain⟨o',ho,Qp⟩:=h.box id g b' h1 h2;exact⟨o',ho,Qp.mono e⟩;obtain⟨Me,h2,h3,h4⟩:=h.row r g n cap sz hr;exact⟨Me,h2,λhm=>h3 (TL.1 hm),h4⟩
def St.holds(h:St G c w s)(l:List AF):∃c',Ext c w c' w/\St G c' w (s.hold l)/\c'.CG=c.CG++bdF l.length none:=by
 induction l generalizing c s with
 |nil=>exact⟨c,Ext.refl _ _,h,by simp⟩
 |cons b l ih=>
  obtain⟨c1,e1,st1,p1⟩:=h.hole b;obtain⟨c2,e2,XV,p2⟩:=ih st1;exact⟨c2,e1.trans e2,XV,by rw[p2,p1,beJ];rfl⟩
def mem_set{l:List (Option Nat)}{id g x:Nat}(h:some g∈l.set id (some x)):some g∈l\/g=x:=by
 rcases List.mem_or_eq_of_mem_set h with h | h
 exact .inl h;exact .inr (by simpa using h)
def nG{l:List (Option Nat)}{id x i g:Nat}(h:(l.set id (some x))[i]?=some (some g)):l[i]?=some (some g)\/(i=id/\g=x):=by
 by_cases e:id=i;subst e;rw[List.getElem?_set_self' ] at h;cases hl:l[id]? with|none=>rw[hl] at h;cases h|some y=>rw[hl] at h;simp at h;exact .inr ⟨rfl,h.symm⟩
 rw[beH e] at h;exact .inl h
def St.fill(h:St G c w s){id:Nat}{b:AF}{o:Obj}(hid:c.CG[id]?=some none)(xO:s.get id=some b)(hb:Ep c w b o) :
   Mon c w { c with CG:=c.CG.set id (some w.heap.size) } { w with heap:=w.heap.push o }/\St G { c with CG:=c.CG.set id (some w.heap.size) } { w with heap:=w.heap.push o } s /\
   ∀c0 w0,Ext c0 w0 c w->c0.CG.length<=id->Ext c0 w0 { c with CG:=c.CG.set id (some w.heap.size) } { w with heap:=w.heap.push o }:=by
 have k:=OQ w o;have hlt:id < c.CG.length:=(aHS.1 hid).1
 have baN:(c.CG.set id (some w.heap.size))[id]?=some (some w.heap.size):=by rw[bdN hlt]
 have hold:∀(i g:Nat),c.CG[i]?=some (some g)->(c.CG.set id (some w.heap.size))[i]?=some (some g):=by
  intro i g hi;have:id≠i:=λe=>by subst e;rw[hid] at hi;cases hi
  rw[beH this];exact hi
 have uQ:∀g i,({ c with CG:=c.CG.set id (some w.heap.size) }:Cx).uQ g i->c.uQ g i\/g=w.heap.size:=by
  intro g i hs;rcases hs with hs | hs
  rcases mem_set hs with hs | hs
  exact .inl (.inl hs);exact .inr hs;exact .inl (.inr hs)
 have Mf:∀g i v,RI c w g i v->RI { c with CG:=c.CG.set id (some w.heap.size) } { w with heap:=w.heap.push o } g i v:=by
  intro g i v hv;refine⟨aUS hv.1 k.size,λhs=>?_,by rw[k.cell hv.1 not_false];exact hv.2.2⟩;rcases uQ g i hs with hs | hs
  exact hv.2.1 hs;have:=hv.1;omega
 have m:Mon c w { c with CG:=c.CG.set id (some w.heap.size) } { w with heap:=w.heap.push o }:=⟨hold,aHT _,λ_ y _ h=>⟨y,h,K3.refl y⟩,Mf⟩
 refine⟨m,⟨by simp[h.len],h.desc,?_,?_,λi g b' h1 h2=>?_,h.IG,λr g n cap sz hr=>?_,h.H8,λg hg=>?_,λg i hb=>aUS (h.Nz g i hb) k.size,h.H7,λg cs hg=>(h.Mr g cs hg).Dx m,by simp;exact bkA h.RU,λg cs hg=>by
  obtain⟨⟨h1,h2⟩,vs,T,f,h3,h4⟩:=h.Od g cs hg;have hlt:=(aHQ.1 h3).1;refine⟨⟨λhm=>?_,h2⟩,vs,T,f,?_,h4⟩;rcases mem_set hm with hm | hm
  exact h1 hm;omega;rw[k.block g hlt not_false];exact h3⟩,?_⟩
 intro i j g h1 h2;rcases nG h1 with h1 | ⟨e1,g1⟩<;>rcases nG h2 with h2 | ⟨e2,g2⟩
 exact h.nodup i j g h1 h2;have:=h.NL (aUV h1);omega;have:=h.NL (aUV h2);omega;omega;intro g hg;rcases mem_set hg with hg | hg
 exact h.low g hg;subst hg;exact h.RU;rcases nG h1 with h1 | ⟨e1,g1⟩
 obtain⟨o',ho,Qp⟩:=h.box i g b' h1 h2;exact⟨o',by rw[k.block g (aHQ.1 ho).1 not_false];exact ho,Qp.Dx m⟩;subst e1 g1;rw[xO] at h2;cases h2;exact⟨o,tJ w o,hb.Dx m⟩;obtain⟨Me,h2,h3,h4,vs,T,⟨f,ho,hf⟩,h5⟩:=h.row r g n cap sz hr;refine⟨Me,h2,λhm=>?_,h4,vs,T,⟨f,by rw[k.block g (aHQ.1 ho).1 not_false];exact ho,hf⟩,h5⟩;rcases mem_set hm with hm | hm
 exact h3 hm;have:=(aHQ.1 ho).1;omega;rcases mem_set hg with hg | hg
 have:=h.NM g hg;simp;omega;subst hg;simp;intro c0 w0 x hle;refine⟨?_,x.IG,x.rows,λg i v hv=>Mf g i v (x.jG g i v hv),x.below.trans (k.below (by rw[<- x.base];exact h.RU) (λ_ h=>h.elim)),x.base,x.bad,λg hg=>?_,x.fJ,λq hq hp hr=>?_⟩;obtain⟨t,ht⟩:=x.CG;refine⟨t.set (id - c0.CG.length) (some w.heap.size),?_⟩;show _=c.CG.set id (some w.heap.size);rw[<- ht,biU _ _ hle];rcases mem_set hg with hg | hg
 exact x.eQ g hg;subst hg;exact .inr x.below.size;have hJ:q < w.heap.size:=aUS hq x.below.size;rw[k.block q hJ not_false];exact x.UN q hq hp hr
end
end AI
namespace AI
open Go Go.RowKit
def pv{α:Type}(P:Program):Sem α->Option α
 |.pure a=>some a
 |.program k=>pv P (k P)
 |.mark _ k=>pv P k
 |_=>none
def aqH{α:Type}{P:Program}(s:Sem α){a:α}(h:pv P s=some a)(w:World):s.run P w=.ok a w:=by induction s with|pure b=>simp[pv] at h;subst h;rfl|program k ih=>exact ih P (by simpa[pv] using h)|mark m k ih=>exact ih (by simpa[pv] using h)|_=>simp[pv] at h
def Yo(v:Value):Option AV :=
 match v with|.slice none 0 0=>some (.sl .full 0 [])|.func f first caps=>if first.size=0/\caps.size=0 then some (.fn f [] []) else none|v=>if scalar v then some (.sc v) else none
def P4:List Value->Option (List AV)
 |[]=>some []
 |v::vs=>match Yo v,P4 vs with|some a,some as=>some (a::as)|_,_=>none
def Rg:List Value->Option (List AV)
 |.pointer none::.slice none 0 0::vs=>(P4 vs).map λl=>.sc (.pointer none)::.sl .zero 0 []::l
 |vs=>P4 vs
def Zl(v:Value):Option AV :=
 match v with|.agg cs=>(Rg cs.toList).map .agg|v=>Yo v
def kW{v:Value}{a:AV}(h:Yo v=some a)(c:Cx)(w:World):Rp c w a v:=by
 unfold Yo at h;split at h;cases h;exact .sl0 rfl;rename_i f first caps
 split at h;rename_i hz;cases h;have h1:first=#[]:=bgS hz.1
 have h2:caps=#[]:=bgS hz.2;subst h1 h2;exact .fn (us:=[]) (vs:=[]) .nil .nil;cases h;split at h;rename_i hs;cases h;exact .sc hs;cases h
def R7{vs:List Value}{as:List AV}(h:P4 vs=some as)(c:Cx)(w:World):CF c w as vs:=by
 induction vs generalizing as with
 |nil=>simp[P4] at h;subst h;exact .nil
 |cons v vs ih=>
  simp only[P4] at h;split at h;rename_i a bs h1 h2;cases h;exact .cons (kW h1 c w) (ih h2);cases h
def Zk{vs:List Value}{as:List AV}(h:Rg vs=some as)(c:Cx)(w:World):CF c w as vs:=by unfold Rg at h;split at h;obtain⟨l,hl,rfl⟩:=beP.1 h;exact .cons (.sc rfl) (.cons (.sl0 ⟨rfl,rfl⟩) (R7 hl c w));exact R7 h c w
def sS{v:Value}{a:AV}(h:Zl v=some a)(c:Cx)(w:World):Rp c w a v:=by
 unfold Zl at h;split at h
 ·rename_i cs
  cases hc:Rg cs.toList with
  |none=>rw[hc] at h;cases h
  |some as=>
   rw[hc] at h;cases h;have:=Rp.agg (Zk hc c w);rwa[bcV] at this
 exact kW h c w
def cellsOf:AV->List AV
 |.agg cs=>cs
 |v=>[v]
def SJ:AV->Bool
 |.any=>true
 |_=>false
def Mp{c:Cx}{w:World}{a:AV}{v:Value}(h:Rp c w a v)(hn:SJ a=false):CF c w (cellsOf a) v.cells.toList:=by
 cases h with
 |agg h1=>simpa[cellsOf,Value.cells] using h1
 |sc h1=>
  cases v<;>first | (simp[scalar] at h1;done) | exact .cons (.sc h1) .nil
 |DW h1=>exact .cons (.DW h1) .nil
 |sl0 h1=>exact .cons (.sl0 h1) .nil
 |MT a1 a2 a3=>exact .cons (.MT a1 a2 a3) .nil
 |OG a1 a2=>exact .cons (.OG a1 a2) .nil
 |el a1=>exact .cons (.el a1) .nil
 |ptr a1=>exact .cons (.ptr a1) .nil
 |fn a1 a2=>exact .cons (.fn a1 a2) .nil
 |ifc a1=>exact .cons (.ifc a1) .nil
 |mp a1=>exact .cons (.mp a1) .nil
 |any a1=>cases hn
 |raw=>exact .cons .raw .nil
def one:AV->Bool
 |.agg _ | .DW _ | .any=>false
 |.sc (.tuple _)=>false
 |_=>true
def aKO{c:Cx}{w:World}{a:AV}{v:Value}(h:Rp c w a v)(ho:one a=true):v.oneCell'=true:=by
 cases h with
 |sc h1=>
  cases v<;>first | rfl | (simp[scalar] at h1;done) | (simp[one] at ho;done)
 |agg=>simp[one] at ho
 |DW=>simp[one] at ho
 |any=>simp[one] at ho
 |_=>rfl
def Xd{c:Cx}{w:World}{as:List AV}{vs:List Value}(h:CF c w as vs)(ho:as.all one=true):∀v∈vs,v.oneCell'=true:=by
 induction as generalizing vs with
 |nil=>cases h;simp
 |cons a as ih=>
  cases h with
  |cons h1 t=>
   simp only[bfK,aUR] at ho;intro v hv;rcases bbG.1 hv with hv | hv
   subst hv;exact aKO h1 ho.1;exact ih t ho.2 v hv
def nZ:TypeDesc->Bool
 |.struct _ | .array _ _=>true
 |_=>false
def apart(P:Program)(t:TypeId)(cs:List AV)(off:Nat):Option AV :=
 match P.underlying t,P.info? t with|some d,some i=>if nZ d then (if off+i.size<=cs.length then some (.agg ((cs.drop off).take i.size)) else none) else cs[off]?|_,_=>none
def lE{P:Program}{t:TypeId}{d:TypeDesc}(h:P.underlying t=some d)(w:World):(isAgg t).run P w=.ok (nZ d) w:=by unfold isAgg;rw[bbA,run_underlying h];cases d<;>rfl
def CL{P:Program}{t:TypeId}{i:TypeInfo}(h:P.info? t=some i)(w:World):(bhM t).run P w=.ok i.size w:=by simp[bhM,typeInfo,h]
def add_lit(g o i:Nat):(⟨g,o,none⟩:Addr).add i=⟨g,o+i,none⟩:=by unfold biD;split<;>simp_all
def Vt{P:Program}{c:Cx}{w:World}{t:TypeId}{cs:List AV}{vs:List Value}{g o off:Nat}{a:AV}(h:apart P t cs off=some a)(hr:CF c w cs vs)(hc:∀(i:Nat) v,vs[i]?=some v->w.cell? ⟨g,o+i,none⟩=some v) :
   ∃u,(loadVar t ⟨g,o+off,none⟩).run P w=.ok u w/\Rp c w a u:=by
 unfold apart at h;split at h;rename_i d i hu hi;unfold loadVar;rw[bbA,lE hu];by_cases hd:nZ d=true;rw[if_pos hd] at h;split at h;rename_i hl;cases h;have hlen:=hr.len;refine⟨.agg ((vs.drop off).take i.size).toArray,?_,.agg ((hr.drop off).take i.size)⟩;have hll:((vs.drop off).take i.size).length=i.size:=by rw[bbT,aUZ];omega
 have:=run_loadCells_list (P:=P) w ⟨g,o+off,none⟩ ((vs.drop off).take i.size) (λj v hj=>by
  rw[add_lit]
  have hj2:vs[off+j]?=some v:=by rw[beD] at hj;split at hj;rw[bgE] at hj;exact hj;cases hj
  have:=hc (off+j) v hj2;rwa[bdW])
 rw[hll] at this;simp[hd,CL hi,this];cases h;rw[if_neg hd] at h;obtain⟨v,hv,hrv⟩:=hr.get h;have:=hc off v hv;exact⟨v,by simp[hd,this],hrv⟩;cases h
def bS{P:Program}{c:Cx}{w:World}{t:TypeId}{cs:List AV}{vs:List Value}{off:Nat}{a:AV}(h:apart P t cs off=some a)(hr:CF c w cs vs)(w0:World) :
   ∃u,(part t vs.toArray off).run P w0=.ok u w0/\Rp c w a u:=by
 unfold apart at h;split at h;rename_i d i hu hi;unfold part;rw[bbA,lE hu];by_cases hd:nZ d=true;rw[if_pos hd] at h;split at h;cases h;refine⟨.agg ((vs.drop off).take i.size).toArray,?_,.agg ((hr.drop off).take i.size)⟩;simp only[hd,baZ,if_true,bbA,CL hi,bcG];congr 2;apply bbW;simp[List.extract_eq_take_drop];cases h;rw[if_neg hd] at h;obtain⟨v,hv,hrv⟩:=hr.get h;exact⟨v,by simp[hd,hv],hrv⟩;cases h
def Lf(P:Program)(s:AS)(t:TypeId):AV->Option AV
 |.ptr id off=>match s.get id with
  |some (.cells cs)=>apart P t cs off
  |some (.Fk _ _ cs)=>(match off with|0=>none|k+1=>apart P t cs k)
  |_=>none
 |.el cs=>apart P t cs 0
 |_=>none
def Uj{G:AP}{c:Cx}{w:World}{s:AS}(hs:St G c w s){id g:Nat}{cs:List AV}(hid:c.CG[id]?=some (some g))(hb:s.get id=some (.cells cs)):∃vs ext T,w.heap[g]?=some (.cells (vs++ext).toArray T (0,0))/\CF c w cs vs:=by obtain⟨o,ho,rQ⟩:=hs.box id g _ hid hb;cases rQ with|Ik ext h1=>exact⟨_,ext,_,ho,h1⟩
def aJ{G:AP}{c:Cx}{w:World}{s:AS}(hs:St G c w s){id g j:Nat}{B:TypeId}{cs:List AV}(hid:c.CG[id]?=some (some g))(hb:s.get id=some (.Fk B j cs)):∃p vs,w.heap[g]?=some (.cells (p::vs).toArray B (0,0))/\(p=.pointer none\/Rp c w (.ptr j 0) p)/\CF c w cs vs:=by obtain⟨o,ho,rQ⟩:=hs.box id g _ hid hb;cases rQ with|Fk hp h1=>exact⟨_,_,ho,hp,h1⟩
def aI{α:Type}{l m:List α}{i:Nat}{x:α}(h:l[i]?=some x):(l++m)[i]?=some x:=by rw[aUY (aHS.1 h).1];exact h
def cell_of_heap{w:World}{g:Nat}{vs:List Value}{T:TypeId}{fr:Nat×Nat}(h:w.heap[g]?=some (.cells vs.toArray T fr)){i:Nat}{v:Value}(hv:vs[i]?=some v):w.cell? ⟨g,i,none⟩=some v:=by simp[bcM,h,hv]
def pW{P:Program}{G:AP}{c:Cx}{w:World}{s:AS}{t:TypeId}{a r:AV}{v:Value}(hs:St G c w s)(h:Lf P s t a=some r)(ha:Rp c w a v):∃u,(bgH t v).run P w=.ok u w/\Rp c w r u:=by
 unfold Lf at h;split at h
 ·split at h
  ·rename_i id off cs hb
   cases ha with
   |ptr hid=>
    obtain⟨vs,ext,T,hw,hr⟩:=Uj hs hid hb;have:=Vt (g:=_) (o:=0) h hr (λi v hv=>by rw[aUU];exact cell_of_heap hw (aI hv));rw[aUU] at this;obtain⟨u,h1,h2⟩:=this;exact⟨u,by simp[bgH,bdK,h1],h2⟩
  ·rename_i id off B j cs hb
   split at h;cases h
   ·rename_i k
    cases ha with
    |ptr hid=>
     obtain⟨p,vs,hw,_,hr⟩:=aJ hs hid hb;have:=Vt (g:=_) (o:=1) h hr (λi v hv=>cell_of_heap (i:=1+i) hw (by rw[bfH];exact hv));rw[bfH 1 k] at this;obtain⟨u,h1,h2⟩:=this;exact⟨u,by simp[bgH,bdK,h1],h2⟩
  cases h
 ·rename_i cs
  cases ha with
  |el hc=>
   obtain⟨vs,hr,Mf⟩:=hc.vals;obtain⟨u,h1,h2⟩:=Vt h hr (λi v hv=>(Mf i v hv).2.2);rw[bcS] at h1;exact⟨u,by simp[bgH,bdK,h1],h2⟩
 cases h
def eK{x:AV}(h:(cellsOf x).all one=true):SJ x=false:=by cases x<;>first | rfl | (simp[cellsOf,one] at h;done)
def sQ{v:Value}{a:AV}(h:Yo v=some a):SJ a=false:=by unfold Yo at h;split at h;cases h;rfl;split at h;cases h;rfl;cases h;split at h;cases h;rfl;cases h
def yT{v:Value}{a:AV}(h:Zl v=some a):SJ a=false:=by
 unfold Zl at h;split at h;rename_i cs;cases hc:Rg cs.toList with|none=>rw[hc] at h;cases h|some as=>rw[hc] at h;cases h;rfl
 exact sQ h
def Gp{α:Type}(cs:List α)(off:Nat)(xs:List α):List α:=cs.take off++xs++cs.drop (off+xs.length)
def CF.Gp{c:Cx}{w:World}{as bs:List AV}{us vs:List Value}(h:CF c w as us)(k:CF c w bs vs)(off:Nat):CF c w (AI.Gp as off bs) (AI.Gp us off vs):=by unfold AI.Gp;rw[k.len];exact((h.take off).append k).append (h.drop _)
def Mn(P:Program)(s:AS)(t:TypeId)(a x:AV):Option AS :=
 match P.info? t,a with
 |some i,.ptr id off=>match s.get id with
  |some (.cells cs)=>if (cellsOf x).length=i.size/\(cellsOf x).all one=true/\off+i.size<=cs.length then some (s.put id (.cells (Gp cs off (cellsOf x)))) else none
  |some (.Fk B j cs)=>(match off with|0=>none|k+1=>if (cellsOf x).length=i.size/\(cellsOf x).all one=true/\k+i.size<=cs.length then some (s.put id (.Fk B j (Gp cs k (cellsOf x)))) else none)
  |_=>none
 |_,_=>none
def GB(w:World)(g:Nat)(cs:Array Value):S4 w (w.setRow g cs) (λx=>x=g) :=
 ⟨rfl,rfl,rfl,by simp[blU],λk _ hne=>by simp only[blU,Array.getElem?_modify];rw[if_neg (λe=>hne e.symm)]⟩
def afL{P:Program}{G:AP}{c:Cx}{w:World}{s s':AS}{t:TypeId}{a x:AV}{v u:Value}(hs:St G c w s)(h:Mn P s t a x=some s')(ha:Rp c w a v)(hx:Rp c w x u) :
   ∃w',(bjJ t v u).run P w=.ok () w'/\Ext c w c w'/\St G c w' s':=by
 unfold Mn at h;split at h
 ·rename_i i id off hi
  split at h
  ·rename_i cs hb
   split at h
   ·rename_i hc
    cases h;cases ha with
    |ptr hid=>
     rename_i g;obtain⟨vs,ext,T,hw,hr⟩:=Uj hs hid hb;have wD:=Mp hx (eK hc.2.1);have hl:=wD.len;have hlv:=hr.len;have E5:=run_storeCells_at P g off T u.cells.toList 0 (vs++ext).toArray w hw (by simp only[bcW,bcS,cZ];omega) (Xd wD hc.2.1);obtain⟨e,st⟩:=hs.put (b:=.cells (Gp cs off (cellsOf x))) hid (GB w g (Gp vs off u.cells.toList++ext).toArray) (setRow_heap w g (vs++ext).toArray _ T (0,0) hw) (.Ik ext (hr.Gp wD off));refine⟨_,?_,e,st⟩;have hsz:u.cells.size=i.size:=by rw[<- hc.1,<- hl];simp
     simp only[bjJ,bdK,bbA,bcG,baZ,storeVar,CL hi,hsz,ne_eq,not_true_eq_false,if_false];simp only[bcS] at E5
     have hsp:Gp (vs++ext) off u.cells.toList=Gp vs off u.cells.toList++ext:=by unfold Gp;rw[List.take_append_of_le_length (by omega),List.drop_append_of_le_length (by omega)];simp only[beJ]
     rw[<- hsp];exact E5
   cases h
  ·rename_i B j cs hb
   split at h;cases h
   ·rename_i k
    split at h
    ·rename_i hc
     cases h;cases ha with
     |ptr hid=>
      rename_i g;obtain⟨p,vs,hw,hp,hr⟩:=aJ hs hid hb;have wD:=Mp hx (eK hc.2.1);have hl:=wD.len;have hlv:=hr.len;have E5:=run_storeCells_at P g (k+1) B u.cells.toList 0 (p::vs).toArray w hw (by simp only[bcW,bcS,amN];omega) (Xd wD hc.2.1);obtain⟨e,st⟩:=hs.put (b:=.Fk B j (Gp cs k (cellsOf x))) hid (GB w g (p::Gp vs k u.cells.toList).toArray) (setRow_heap w g (p::vs).toArray _ B (0,0) hw) (.Fk hp (hr.Gp wD k));refine⟨_,?_,e,st⟩;have hsz:u.cells.size=i.size:=by rw[<- hc.1,<- hl];simp
      simp only[bjJ,bdK,bbA,bcG,baZ,storeVar,CL hi,hsz,ne_eq,not_true_eq_false,if_false];simp only[bcS] at E5
      have hsp:Gp (p::vs) (k+1) u.cells.toList=p::Gp vs k u.cells.toList:=by unfold Gp;rw[List.take_succ_cons,show k+1+u.cells.toList.length=(k+u.cells.toList.length)+1 by omega,List.drop_succ_cons];rfl
      rw[<- hsp];exact E5
    cases h
  cases h
 cases h
def auJ{P:Program}{G:AP}{c:Cx}{w:World}{s:AS}{t:TypeId}{x:AV}{u:Value}(hs:St G c w s)(hx:Rp c w x u)(hn:SJ x=false) :
   ∃v' w' c',(bgT t u).run P w=.ok v' w'/\Ext c w c' w'/\St G c' w' (s.new (.cells (cellsOf x)))/\Rp c' w' (.ptr s.nx 0) v':=by
 have wD:=Mp hx hn
 have hb:Ep c w (.cells (cellsOf x)) (.cells u.cells t (0,0)):=by have:=Ep.cells (T:=t) wD;rwa[bcV] at this
 obtain⟨e,st⟩:=hs.new hb;refine⟨.pointer (some ⟨w.heap.size,0,none⟩),_,_,?_,e,st,.ptr ?_⟩;simp[bgT,newVar,newRow];simp[hs.len]
def ajY(t:TypeId)(nx:Nat)(z:AV):AF:=match cellsOf z with|.sc (.pointer none)::c::cs=>.Fk t nx (c::cs)|cs=>.cells cs
def ajJ{P:Program}{G:AP}{c:Cx}{w:World}{s:AS}{t:TypeId}{x:AV}{u:Value}(hs:St G c w s)(hx:Rp c w x u)(hn:SJ x=false) :
   ∃v' w' c',(bgT t u).run P w=.ok v' w'/\Ext c w c' w'/\St G c' w' (s.new (ajY t s.nx x))/\Rp c' w' (.ptr s.nx 0) v':=by
 have wD:=Mp hx hn
 have hb:Ep c w (ajY t s.nx x) (.cells u.cells t (0,0)):=by
  unfold ajY;split;rename_i d cs hq;rw[hq] at wD;generalize hv:u.cells.toList=vs at wD;have hu:u.cells=vs.toArray:=by rw[<- hv]
  rw[hu];cases wD with|cons h1 h2=>cases h1;exact .Fk (.inl rfl) h2
  have:=Ep.cells (T:=t) wD;rwa[bcV] at this
 obtain⟨e,st⟩:=hs.new hb;refine⟨.pointer (some ⟨w.heap.size,0,none⟩),_,_,?_,e,st,.ptr ?_⟩;simp[bgT,newVar,newRow];simp[hs.len]
def afD{P:Program}{G:AP}{c:Cx}{w:World}{s:AS}{t:TypeId}{x:AV}{u:Value}{id:Nat}(hs:St G c w s)(hx:Rp c w x u)(hn:SJ x=false)(hid:c.CG[id]?=some none)(xO:s.get id=some (.cells (cellsOf x))) :
   ∃v' w' c',(bgT t u).run P w=.ok v' w'/\Mon c w c' w'/\St G c' w' s/\Rp c' w' (.ptr id 0) v'/\(∀c0 w0,Ext c0 w0 c w->c0.CG.length<=id->Ext c0 w0 c' w')/\∀i,i≠id->c'.CG[i]?=c.CG[i]?:=by
 have wD:=Mp hx hn
 have hb:Ep c w (.cells (cellsOf x)) (.cells u.cells t (0,0)):=by have:=Ep.cells (T:=t) wD;rwa[bcV] at this
 obtain⟨m,st,ex⟩:=hs.fill hid xO hb;refine⟨.pointer (some ⟨w.heap.size,0,none⟩),_,_,?_,m,st,.ptr ?_,ex,λi hi=>?_⟩;simp[bgT,newVar,newRow];exact bdN (aHS.1 hid).1;exact beH (λe=>hi e.symm)
end AI
namespace AI
open Go Go.RowKit
def avU(off:Nat)(xs:List Value)(k:Nat)(cs:List Value)(h:off+k+xs.length<=cs.length) :
   (xs.zipIdx k).foldl (λ(a:Array Value)(p:Value×Nat)=>a.setIfInBounds (off+p.2) p.1) cs.toArray=(Gp cs (off+k) xs).toArray:=by
 induction xs generalizing k cs with
 |nil=>simp[Gp]
 |cons x xs ih=>
  simp only[amN] at h;rw[List.zipIdx_cons,bkP];have:=ih (k+1) (cs.set (off+k) x) (by simp;omega);simp only[List.setIfInBounds_toArray];rw[this];have e:=list_seg_step cs (off+k) x xs (by omega);unfold Gp;rw[show off+(k+1)=off+k+1 from by omega,e];simp
inductive PL(c:Cx)(w:World):List (Nat×AV)->List (Nat×Value)->Prop where
 |nil:PL c w [] []
 |cons {i:Nat}{a:AV}{v:Value}{as:List (Nat×AV)}{vs:List (Nat×Value)} (h:Rp c w a v) (t:PL c w as vs):PL c w ((i,a)::as) ((i,v)::vs)
def Vb(place:Nat->Option (Nat×Nat))(cells:List AV):List (Nat×AV)->Option (List AV)
 |[]=>some cells
 |(i,v)::rest=>match place i with|none=>none|some (off,size)=>if SJ v=false/\(cellsOf v).length=size/\off+size<=cells.length then Vb place (Gp cells off (cellsOf v)) rest else none
def bQ{c:Cx}{w:World}{place:Nat->Option (Nat×Nat)}{cells r:List AV}{ps:List (Nat×AV)}{vs:List Value}{qs:List (Nat×Value)}(h:Vb place cells ps=some r)(hr:CF c w cells vs)(hp:PL c w ps qs) :
   ∃us,bkW place vs.toArray qs=some us.toArray/\CF c w r us:=by
 induction hp generalizing cells vs with
 |nil=>simp[Vb] at h;subst h;exact⟨vs,rfl,hr⟩
 |cons h1 _ ih=>
  rename_i i a v as qs' _;simp only[Vb] at h;split at h;cases h;rename_i off size hpl;split at h;rename_i hc;have hv:=Mp h1 hc.1
  replace hc:=hc.2
  have hl:=hv.len;have hlc:=hr.len;obtain⟨us,hf,hu⟩:=ih h (hr.Gp hv off);refine⟨us,?_,hu⟩;unfold bkW;rw[hpl];have hsz:v.cells.size=size:=by rw[<- hc.1,<- hl];simp
  have aPS:(decide (v.cells.size≠size)||decide (off+v.cells.size > vs.toArray.size))=false:=by simp[hsz];omega
  simp only[aPS,bbC,if_false];have:=avU off v.cells.toList 0 vs (by rw[bcS];omega);rw[bcS] at this;rw[<- hf,<- this];congr 1;rw[<- Array.foldl_toList,Array.toList_zipIdx];cases h
def fT(P:Program)(fields:Array Field)(k:Nat):Option (Nat×Nat) :=
 match fields.toList[k]? with|some f=>(P.info? f.type).map λi=>(f.offset,i.size)|none=>none
def bM(P:Program)(t:TypeId)(parts:List (Nat×AV)):Option AV :=
 match P.info? t,P.underlying t with
 |some i,some d=>match i.zero with
  |some z=>match Rg z.cells.toList with
   |some zs=>match d with
    |.struct fields=>if fields.toList.all (λf=>(P.info? f.type).isSome)=true then (Vb (fT P fields) zs parts).map .agg else none
    |.array _ elem=>match P.info? elem with|some e=>(Vb (λi=>some (i*e.size,e.size)) zs parts).map .agg|none=>none
    |_=>none
   |none=>none
  |none=>none
 |_,_=>none
def run_places{P:Program}(fs:List Field)(h:fs.all (λf=>(P.info? f.type).isSome)=true)(w:World) :
   (fs.mapM (m:=Sem) λf=>do pure (f.offset,<- bhM f.type)).run P w=.ok (fs.map λf=>(f.offset,((P.info? f.type).map (·.size)).getD 0)) w:=by
 induction fs with
 |nil=>rfl
 |cons f fs ih=>
  simp only[bfK,aUR] at h;obtain⟨i,hi⟩:=bfV.1 h.1;rw[bkX];simp only[bbA,CL hi,baZ,bcG,ih h.2,List.map_cons,hi,bbB,bfP]
def afE{P:Program}{c:Cx}{w:World}{t:TypeId}{ps:List (Nat×AV)}{r:AV}{qs:Array (Nat×Value)}(h:bM P t ps=some r)(hp:PL c w ps qs.toList)(w0:World) :
   ∃u,(bkN t qs).run P w0=.ok u w0/\Rp c w r u:=by
 unfold bM at h;split at h
 ·rename_i i d hi hu
  split at h
  ·rename_i z hz
   split at h
   ·rename_i zs hzs
    have hzr:=Zk hzs c w;split at h
    ·rename_i fields
     split at h
     ·rename_i GC
      cases hf:Vb (fT P fields) zs ps with
      |none=>rw[hf] at h;cases h
      |some cs=>
       rw[hf] at h;cases h;obtain⟨us,Y7,hur⟩:=bQ hf hzr hp;refine⟨.agg us.toArray,?_,.agg hur⟩;have hpl:=run_places (P:=P) fields.toList GC w0
       have aIM:(λk=>(fields.toList.map λf=>(f.offset,((P.info? f.type).map (·.size)).getD 0)).toArray[k]?)=fT P fields:=by
        funext k;unfold fT;simp only[bdQ,bbS];cases hk:fields.toList[k]? with
        |none=>simp
        |some f=>
         obtain⟨i,hi⟩:=bfV.1 (bcC.1 GC f (aUV hk));simp[hi]
       unfold bkN;simp only[bbA,zeroValue,typeInfo,run_program,baZ,hi,hz,bcG,run_underlying hu];rw[bhQ];simp only[Sem.run_map,hpl,baZ];rw[show(λx=>(List.map (λf=>(f.offset,((P.info? f.type).map (·.size)).getD 0)) fields.toList).toArray[x]?)=fT P fields from aIM];rw[bcV] at Y7;rw[Y7];rfl
     cases h
    ·rename_i elem
     split at h
     ·rename_i e he
      cases hf:Vb (λi=>some (i*e.size,e.size)) zs ps with
      |none=>rw[hf] at h;cases h
      |some cs=>
       rw[hf] at h;cases h;obtain⟨us,Y7,hur⟩:=bQ hf hzr hp;refine⟨.agg us.toArray,?_,.agg hur⟩;unfold bkN;rw[bcV] at Y7;simp[zeroValue,typeInfo,hi,hz,run_underlying hu,CL he,Y7]
     cases h
    cases h
   cases h
  cases h
 cases h
end AI
namespace AI
open Go Go.RowKit
def vR{c:Cx}{w:World}{zs:List AV}{vs:List Value}(h:CF c w zs vs)(m:Nat)(hm:m≠0->zs≠[]) :
   CF c w ((bcB m).map λi=>zs.getD (i % zs.length) (.sc undef)) ((bcB m).map λi=>vs.toArray[i % vs.toArray.size]!):=by
 refine CF.aKM (by simp) (λi a v h1 h2=>?_);rw[bbS] at h1 h2;cases hr:(bcB m)[i]? with
 |none=>rw[hr] at h1;cases h1
 |some j=>
  rw[hr] at h1 h2;simp only[bbB,aUQ] at h1 h2;have hj:j < m:=bcZ.1 (aUV hr);have hne:=hm (by omega);have hlen:zs.length≠0:=λe=>hne (bbD e);have hlt:j % zs.length < zs.length:=Nat.mod_lt _ (by omega);have hl:=h.len;have hg:zs[j % zs.length]?=some (zs[j % zs.length]'hlt):=atS hlt;obtain⟨v',hv',hrv⟩:=h.get hg;rw[bcR,hg] at h1;subst h1;rw[bcW,hl] at h2
  have:vs.toArray[j % zs.length]! = v':=by rw[getElem!_def,bdQ,hv']
  rw[this] at h2;subst h2;exact hrv
def MY(P:Program)(t:TypeId)(len:Nat)(parts:List (Nat×AV)):Option AV :=
 match P.underlying t with
 |some (.slice elem)=>match P.info? elem with
  |some e=>if len*e.size<=16777216 then
   (if len*e.size=0 then (if len=0/\parts.isEmpty=true then some (.sl .full 0 []) else none) else match e.zero with
    |some z=>match P4 z.cells.toList with|some zs=>if zs.isEmpty=true then none else (Vb (λi=>some (i*e.size,e.size)) ((bcB (len*e.size)).map λi=>zs.getD (i % zs.length) (.sc undef)) parts).map (.sl .full len)|none=>none
    |none=>none)
   else none
  |none=>none
 |_=>none
def bN{P:Program}{G:AP}{c:Cx}{w:World}{s:AS}{t:TypeId}{len:Nat}{ps:List (Nat×AV)}{r:AV}{qs:Array (Nat×Value)}(hs:St G c w s)(h:MY P t len ps=some r)(hp:PL c w ps qs.toList) :
   ∃u w',(biE t len qs).run P w=.ok u w'/\Ext c w c w'/\St G c w' s/\Rp c w' r u:=by
 unfold MY at h;split at h
 ·rename_i elem hu
  split at h
  ·rename_i e he
   split at h
   ·rename_i h24
    split at h;rename_i h0;split at h;rename_i hz;cases h
    have hq:qs.toList=[]:=by
     have wA:ps=[]:=List.isEmpty_iff.1 hz.2;subst wA;have:∀l,PL c w [] l->l=[]:=λl h=>by cases h;rfl
     exact this _ hp
    obtain⟨rfl,_⟩:=hz;obtain⟨x,st⟩:=hs.same (OQ w (.cells #[] elem));refine⟨.slice (some ⟨w.heap.size,0,none⟩) 0 0,_,?_,x,st,.sl0 rfl⟩;have hz0:biY 0=#[]:=rfl;simp[biE,run_underlying hu,CL he,hq,bkW,newRow,hz0];cases h
    ·rename_i h0
     split at h
     ·rename_i z hz
      split at h
      ·rename_i zs hzs
       split at h;cases h
       ·rename_i hne
        have hzr:=R7 hzs c w;have hin:=vR hzr (len*e.size) (λ_ hn=>hne (by rw[hn];rfl));simp only[bcV] at hin;cases hf:Vb (λi=>some (i*e.size,e.size)) ((bcB (len*e.size)).map λi=>zs.getD (i % zs.length) (.sc undef)) ps with
        |none=>rw[hf] at h;cases h
        |some cs=>
         rw[hf] at h;cases h;obtain⟨us,Y7,hur⟩:=bQ hf hin hp;obtain⟨x,st⟩:=hs.same (OQ w (.cells us.toArray elem));refine⟨.slice (some ⟨w.heap.size,0,none⟩) len len,_,?_,x,st,.MT (aHT _) (A7.R8 (hur.mono x) (λi v hv=>by rw[aUU];exact hs.aBD us elem hv)) rfl⟩
         have amM:(biY (len*e.size)).map (λi=>z.cells[i % z.cells.size]!)=((bcB (len*e.size)).map λi=>z.cells[i % z.cells.size]!).toArray:=by apply bbW;simp
         rw[<- amM] at Y7;have aUN:¬16777216 < len*e.size:=by omega
         unfold biE;simp only[bbA,run_underlying hu,baZ,CL he,Sem.run_ite,gt_iff_lt,show(2:Nat) ^ 24=16777216 from rfl,aUN,if_false,bcG,h0,zeroValue,typeInfo,run_program,hz,he,Y7];simp[newRow]
      cases h
     cases h
   cases h
  cases h
 cases h
def Th(P:Program)(st:TypeId)(a:AV)(k:Nat):Option AV :=
 match P.underlying st with
 |some (.struct fields)=>match fields.toList[k]? with
  |some f=>match P.info? f.type with
   |some i=>if i.size=0 then none else match a with|.ptr id off=>some (.ptr id (off+f.offset))|.el cs=>some (.el (cs.drop f.offset))|_=>none
   |none=>none
  |none=>none
 |_=>none
def pT{P:Program}{c:Cx}{w:World}{st:TypeId}{a r:AV}{k:Nat}{v:Value}(h:Th P st a k=some r)(ha:Rp c w a v):∃u,(bjK st v k).run P w=.ok u w/\Rp c w r u:=by
 unfold Th at h;split at h
 ·rename_i fields hu
  split at h
  ·rename_i f hf
   split at h
   ·rename_i i hi
    split at h;cases h
    ·rename_i h0
     have iK:fields[k]?=some f:=by rw[<- bbE];exact hf
     split at h
     ·cases h
      cases ha with
      |ptr hid=>
       refine⟨_,?_,.ptr hid⟩;simp[bjK,run_underlying hu,iK,bdK,fieldPlace,CL hi,h0,add_lit]
     ·cases h
      cases ha with
      |el hc=>
       refine⟨_,?_,.el (hc.drop f.offset)⟩;simp[bjK,run_underlying hu,iK,bdK,fieldPlace,CL hi,h0,add_lit]
     cases h
   cases h
  cases h
 cases h
def bP(P:Program)(st:TypeId)(a:AV)(k:Nat):Option AV :=
 match P.underlying st with
 |some (.struct fields)=>match fields.toList[k]? with
  |some f=>match a with|.agg cs=>apart P f.type cs f.offset|_=>none
  |none=>none
 |_=>none
def afG{P:Program}{c:Cx}{w:World}{st:TypeId}{a r:AV}{k:Nat}{v:Value}(h:bP P st a k=some r)(ha:Rp c w a v)(w0:World):∃u,(Instr.field st v k).run P w0=.ok u w0/\Rp c w r u:=by
 unfold bP at h;split at h
 ·rename_i fields hu
  split at h
  ·rename_i f hf
   split at h
   ·cases ha with
    |agg hr=>
     have iK:fields[k]?=some f:=by rw[<- bbE];exact hf
     obtain⟨u,h1,h2⟩:=bS h hr w0;exact⟨u,by simp[Instr.field,run_underlying hu,iK,asAgg,h1],h2⟩
   cases h
  cases h
 cases h
def UH:AV->Option Nat
 |.sc (.int _ i)=>if 0<=i then some i.toNat else none
 |_=>none
def N8{c:Cx}{w:World}{a:AV}{v:Value}{n:Nat}(h:UH a=some n)(ha:Rp c w a v):∃k i,v=.int k i/\0<=i/\i.toNat=n:=by unfold UH at h;split at h;rename_i k i;split at h;rename_i h0;cases h;cases ha;exact⟨k,i,rfl,h0,rfl⟩;cases h;cases h
def Df(P:Program)(t:TypeId)(x ix:AV):Option AV :=
 match P.underlying t,UH ix with
 |some (.slice elem),some i=>match P.info? elem,x with|some e,.sl _ n cs=>if i < n then some (.el (cs.drop (i*e.size))) else none|some e,.OG id off n=>if i < n then some (.ptr id (off+i*e.size)) else none|_,_=>none
 |some (.array len elem),some i=>match P.info? elem,x with|some e,.ptr id off=>if i < len then some (.ptr id (off+i*e.size)) else none|some e,.el cs=>if i < len then some (.el (cs.drop (i*e.size))) else none|_,_=>none
 |_,_=>none
def pU{P:Program}{c:Cx}{w:World}{t:TypeId}{x ix r:AV}{v vi:Value}(h:Df P t x ix=some r)(hx:Rp c w x v)(hi:Rp c w ix vi):∃u,(bgV t v vi).run P w=.ok u w/\Rp c w r u:=by
 unfold Df at h;split at h
 ·rename_i elem i hu hn
  obtain⟨k,z,rfl,hz0,rfl⟩:=N8 hn hi;split at h
  ·rename_i e n cs he
   split at h
   ·rename_i hlt
    cases h;have hz1:z < (n:Int):=by omega
    cases hx with
    |sl0=>omega
    |MT hn hc ho=>
     refine⟨_,?_,.el (hc.drop _)⟩;simp[bgV,asIntOf,run_underlying hu,hz0,hz1,CL he,add_lit]
   cases h
  ·rename_i e id off n he
   split at h
   ·rename_i hlt
    cases h;have hz1:z < (n:Int):=by omega
    cases hx with
    |OG hn hid=>
     refine⟨_,?_,.ptr hid⟩;simp[bgV,asIntOf,run_underlying hu,hz0,hz1,CL he,add_lit]
   cases h
  cases h
 ·rename_i len elem i hu hn
  obtain⟨k,z,rfl,hz0,rfl⟩:=N8 hn hi;split at h
  ·rename_i e id off he
   split at h
   ·rename_i hlt
    cases h;have hz1:z < (len:Int):=by omega
    cases hx with
    |ptr hid=>
     refine⟨_,?_,.ptr hid⟩;simp[bgV,asIntOf,run_underlying hu,hz0,hz1,CL he,add_lit,bdK]
   cases h
  ·rename_i e cs he
   split at h
   ·rename_i hlt
    cases h;have hz1:z < (len:Int):=by omega
    cases hx with
    |el hc=>
     refine⟨_,?_,.el (hc.drop _)⟩;simp[bgV,asIntOf,run_underlying hu,hz0,hz1,CL he,add_lit,bdK]
   cases h
  cases h
 cases h
def Ly(P:Program)(t:TypeId)(x ix:AV):Option AV :=
 match P.underlying t,UH ix with
 |some (.array len elem),some i=>match P.info? elem,x with|some e,.agg cs=>if i < len then apart P elem cs (i*e.size) else none|_,_=>none
 |some .string,some i=>match x with
  |.sc (.string s)=>match s.data.toList[i]? with|some b=>some (.sc (.int .u8 b.toNat))|none=>none
  |_=>none
 |_,_=>none
def afH{P:Program}{c:Cx}{w:World}{t:TypeId}{x ix r:AV}{v vi:Value}(h:Ly P t x ix=some r)(hx:Rp c w x v)(hi:Rp c w ix vi)(w0:World):∃u,(bcT t v vi).run P w0=.ok u w0/\Rp c w r u:=by
 unfold Ly at h;split at h
 ·rename_i len elem i hu hn
  obtain⟨k,z,rfl,hz0,rfl⟩:=N8 hn hi;split at h
  ·rename_i e cs he
   split at h
   ·rename_i hlt
    have hz1:z < (len:Int):=by omega
    cases hx with
    |agg hr=>
     obtain⟨u,h1,h2⟩:=bS h hr w0;exact⟨u,by simp[bcT,asIntOf,run_underlying hu,hz0,hz1,CL he,h1],h2⟩
   cases h
  cases h
 rename_i i hu hn;obtain⟨k,z,rfl,hz0,rfl⟩:=N8 hn hi;split at h;rename_i s;split at h;rename_i b hb;cases h;cases hx;refine⟨_,?_,.sc rfl⟩
 have Qp:s[z.toNat]?=some b:=by
  rw[<- hb];have hlt:=(aHS.1 hb).1;have hl2:z.toNat < s.size:=by simpa using hlt
  rw[getElem?_pos s z.toNat hl2,atS hlt];rfl
 simp[bcT,asIntOf,run_underlying hu,hz0,Qp];cases h;cases h;cases h
def Tf(x:AV)(k:Nat):Option AV :=
 match x with|.DW vs=>vs[k]?|_=>none
def pS{P:Program}{c:Cx}{w:World}{x r:AV}{k:Nat}{v:Value}(h:Tf x k=some r)(hx:Rp c w x v)(w0:World):∃u,(blI v k).run P w0=.ok u w0/\Rp c w r u:=by
 unfold Tf at h;split at h
 ·cases hx with
  |DW hr=>
   obtain⟨u,h1,h2⟩:=hr.get h;exact⟨u,by simp[blI,h1],h2⟩
 cases h
end AI
namespace AI
open Go Go.RowKit
def Z7:AV->Option Value
 |.sc v=>some v
 |_=>none
def Qd:List AV->Option (List Value)
 |[]=>some []
 |a::as=>match Z7 a,Qd as with|some v,some vs=>some (v::vs)|_,_=>none
def XI:AV->Option Value
 |.sc v=>some v
 |.agg cs=>(Qd cs).map λl=>.agg l.toArray
 |_=>none
def XH{c:Cx}{w:World}{a:AV}{v u:Value}(h:Z7 a=some v)(ha:Rp c w a u):u=v:=by unfold Z7 at h;split at h;cases h;cases ha;rfl;cases h
def fX{c:Cx}{w:World}{as:List AV}{vs us:List Value}(h:Qd as=some vs)(ha:CF c w as us):us=vs:=by
 induction as generalizing vs us with
 |nil=>simp[Qd] at h;subst h;cases ha;rfl
 |cons a as ih=>
  simp only[Qd] at h;split at h;rename_i v vs' h1 h2;cases h;cases ha with|cons p q=>rw[XH h1 p,ih h2 q]
  cases h
def vD{c:Cx}{w:World}{a:AV}{v u:Value}(h:XI a=some v)(ha:Rp c w a u):u=v:=by
 unfold XI at h;split at h;cases h;cases ha;rfl
 ·rename_i cs
  cases hc:Qd cs with
  |none=>rw[hc] at h;cases h
  |some l=>
   rw[hc] at h;cases h;cases ha with|agg hr=>rw[fX hc hr]
 cases h
def jB(v:Value):Option AV:=if scalar v then some (.sc v) else none
def oT{v:Value}{a:AV}(h:jB v=some a)(c:Cx)(w:World):Rp c w a v:=by unfold jB at h;split at h;rename_i hs;cases h;exact .sc hs;cases h
def wS(op:BinOp)(x y:ByteArray):Option Value :=
 match op with
 |.add=>if x.data.toList.length+y.data.toList.length<=9223372036854775807 then some (.string ⟨(x.data.toList++y.data.toList).toArray⟩) else none
 |.eql=>some (.bool (x.data.toList == y.data.toList))
 |.neq=>some (.bool (!(x.data.toList == y.data.toList)))
 |.lss=>some (.bool (biL x.data.toList y.data.toList))
 |.leq=>some (.bool (biL x.data.toList y.data.toList||x.data.toList == y.data.toList))
 |.gtr=>some (.bool (!(biL x.data.toList y.data.toList||x.data.toList == y.data.toList)))
 |.geq=>some (.bool (!(biL x.data.toList y.data.toList)))
 |_=>none
def SF(P:Program)(op:BinOp)(t:TypeId)(xo yo:Operand)(a b:AV):Option AV :=
 match a,b with|.sc (.string x),.sc (.string y)=>(wS op x y).bind jB|a,b=>match XI a,XI b with|some u,some v=>(pv P (do eqGuard op t xo yo u v;binOp op t u v)).bind jB|_,_=>none
def Wy(x y:ByteArray):x++y=⟨(x.data.toList++y.data.toList).toArray⟩:=by apply ByteArray.ext;simp
def ajH{P:Program}{c:Cx}{w:World}{op:BinOp}{t:TypeId}{xo yo:Operand}{a b r:AV}{u v:Value}(h:SF P op t xo yo a b=some r)(ha:Rp c w a u)(hb:Rp c w b v)(w0:World) :
   ∃z,(do eqGuard op t xo yo u v;binOp op t u v:Sem Value).run P w0=.ok z w0/\Rp c w r z:=by
 unfold SF at h;split at h
 ·rename_i x y
  cases ha;cases hb;cases hs:wS op x y with
  |none=>rw[hs] at h;cases h
  |some z=>
   rw[hs,TC] at h;refine⟨z,?_,oT h c w⟩;have kF:x.data.toList.length=x.size:=by simp
   have hl2:y.data.toList.length=y.size:=by simp
   unfold wS at hs;split at hs;split at hs;rename_i hle;cases hs;rw[kF,hl2] at hle
   have:¬((x.size+y.size:Nat):Int) > beR.max:=by show ¬((x.size+y.size:Nat):Int) > 9223372036854775807;omega
   simp[eqGuard,binOp,Op.stringOp,Wy];omega;cases hs
   all_goals first
    |(cases hs;simp[eqGuard,binOp,Op.stringOp,ByteArray.toList_eq];done)
    |(cases hs;done)
 ·split at h
  ·rename_i u' v' h1 h2
   have e1:=vD h1 ha;have e2:=vD h2 hb;subst e1 e2;cases hp:pv P (do eqGuard op t xo yo u v;binOp op t u v) with
   |none=>rw[hp] at h;cases h
   |some z=>
    rw[hp,TC] at h;exact⟨z,aqH _ hp w0,oT h c w⟩
  cases h
def aRM:Operand->Bool
 |.const (.slice none 0 0)=>true
 |_=>false
def ajQ(P:Program)(op:BinOp)(t:TypeId)(yo:Operand)(z:Bool):Option AV:=match aRM yo,P.underlying t with
 |true,some (.slice _)=>(match op with|.eql=>some (.sc (.bool z))|.neq=>some (.sc (.bool (!z)))|_=>none)
 |_,_=>none
def Md(P:Program)(op:BinOp)(t:TypeId)(xo yo:Operand)(a b:AV):Option AV :=
 match a with|.sl .nil _ _=>ajQ P op t yo true|.sl .nn _ _=>ajQ P op t yo false|a=>SF P op t xo yo a b
def mK{P:Program}{op:BinOp}{t:TypeId}{xo yo:Operand}{z:Bool}{r:AV}{A:Option Addr}{n cap:Nat}{v:Value}(h:ajQ P op t yo z=some r)(hA:A.isNone=z)(hy:∀k,yo=.const k->v=k)(c:Cx)(w w0:World) :
   ∃q,(do eqGuard op t xo yo (.slice A n cap) v;binOp op t (.slice A n cap) v:Sem Value).run P w0=.ok q w0/\Rp c w r q:=by
 unfold ajQ at h;split at h;rename_i e hn hu
 have hv:v=.slice none 0 0:=by unfold aRM at hn;split at hn;exact hy _ rfl;cases hn
 subst hv
 have QT:(Op.equal t (.slice A n cap) (.slice none 0 0)).run P w0=.ok z w0:=by unfold Op.equal;obtain⟨d,hd⟩:∃d,Op.maxDepth=d+1:=⟨_,rfl⟩;rw[hd];unfold Op.equalIn;rw[bbA,run_underlying hu,baZ];cases A with|none=>simp only[Option.isNone_none] at hA;subst hA;rfl|some a=>simp only[Option.isNone_some] at hA;subst hA;rfl
 split at h;cases h;exact⟨.bool z,by simp only[eqGuard,binOp];rw[bbA];simp[QT],.sc rfl⟩;cases h;exact⟨.bool !z,by simp only[eqGuard,binOp];rw[bbA];simp[QT],.sc rfl⟩;cases h;cases h
def auI{P:Program}{c:Cx}{w:World}{op:BinOp}{t:TypeId}{xo yo:Operand}{a b r:AV}{u v:Value}(h:Md P op t xo yo a b=some r)(ha:Rp c w a u)(hb:Rp c w b v)(hy:∀k,yo=.const k->v=k)(w0:World) :
   ∃z,(do eqGuard op t xo yo u v;binOp op t u v:Sem Value).run P w0=.ok z w0/\Rp c w r z:=by
 unfold Md at h;split at h;cases ha with|sl0 h0=>exact mK h h0 hy c w w0|MT _ _ ho=>exact ho.elim
 cases ha with|sl0 h0=>exact mK h h0 hy c w w0|MT _ _ ho=>exact mK h rfl hy c w w0
 exact ajH h ha hb w0
def YV(P:Program)(s:Sem Value):Option AV:=(pv P s).bind jB
def Wz{P:Program}{s:Sem Value}{r:AV}(h:YV P s=some r)(c:Cx)(w w0:World):∃z,s.run P w0=.ok z w0/\Rp c w r z:=by
 unfold YV at h;cases hp:pv P s with
 |none=>rw[hp] at h;cases h
 |some z=>
  rw[hp,TC] at h;exact⟨z,aqH _ hp w0,oT h c w⟩
def ON(d:Nat):Option AV->Option Nat
 |none=>some d
 |some a=>UH a
inductive RO(c:Cx)(w:World):Option AV->Option Value->Prop where
 |none:RO c w none none
 |some {a:AV}{v:Value} (h:Rp c w a v):RO c w (some a) (some v)
def Ml(P:Program)(t:TypeId)(x:AV)(lo hi mx:Option AV):Option AV :=
 match P.underlying t with
 |some .string=>match x with
  |.sc (.string s)=>match mx,ON 0 lo,ON s.data.toList.length hi with|none,some l,some h=>if l<=h/\h<=s.data.toList.length then some (.sc (.string ⟨((s.data.toList.drop l).take (h - l)).toArray⟩)) else none|_,_,_=>none
  |_=>none
 |some (.slice elem)=>match P.info? elem,x with
  |some e,.sl own n cs=>match ON 0 lo,ON n hi with
   |some l,some h=>if l<=h/\h<=n/\cs.length=n*e.size then
    (match mx with|none=>some (.sl (if l=0/\h=n then own else if h=n/\own=.full then .full else .lost) (h - l) ((cs.drop (l*e.size)).take ((h - l)*e.size)))|some m=>match UH m with|some m=>if h=m/\hi.isSome=true then some (.sl .full (h - l) ((cs.drop (l*e.size)).take ((h - l)*e.size))) else none|none=>none)
    else none
   |_,_=>none
  |_,_=>none
 |_=>none
def aC(d:Nat)(o:Option Value)(n:Nat):Prop:=(o=none/\n=d)\/∃k i,o=some (.int k i)/\0<=i/\i.toNat=n
def Uh{c:Cx}{w:World}{d n:Nat}{a:Option AV}{v:Option Value}(h:ON d a=some n)(ha:RO c w a v):aC d v n:=by
 cases ha with
 |none=>simp[ON] at h;exact .inl ⟨rfl,h.symm⟩
 |some h1=>
  obtain⟨k,i,rfl,h2,h3⟩:=N8 h h1;exact .inr ⟨k,i,rfl,h2,h3⟩
def Ki{P:Program}(k:IntKind)(i:Int)(y:Nat)(code:BoundsCode)(w:World)(h0:0<=i)(h1:i.toNat<=y):(bkI (.int k i) y code).run P w=.ok i.toNat w:=by
 have:i<=(y:Int):=by omega
 simp[bkI,asIntOf,h0,this]
def fN{P:Program}{isSlice:Bool}{len cap l h:Nat}{lo hi:Option Value}(hlo:aC 0 lo l)(hhi:aC len hi h)(hle:l<=h)(hh:h<=cap)(w:World) :
   (bdY isSlice len cap lo hi none).run P w=.ok (l,h,cap) w:=by
 rcases hlo with ⟨rfl,rfl⟩ | ⟨k,i,rfl,J2,rfl⟩<;>rcases hhi with ⟨rfl,rfl⟩ | ⟨k',i',rfl,amV,rfl⟩
 simp[bdY];simp[bdY,Ki k' i' cap _ w amV hh];simp[bdY,Ki k i h _ w J2 hle];simp[bdY,Ki k' i' cap _ w amV hh,Ki k i _ _ w J2 hle]
def uN{P:Program}{isSlice:Bool}{len cap l h:Nat}{lo hi:Option Value}{k:IntKind}{j:Int}(hlo:aC 0 lo l)(hhi:∃k i,hi=some (.int k i)/\0<=i/\i.toNat=h)(hle:l<=h)(hj:0<=j)(hh:h<=j.toNat)(hc:j.toNat<=cap)(w:World) :
   (bdY isSlice len cap lo hi (some (.int k j))).run P w=.ok (l,h,j.toNat) w:=by
 obtain⟨k',i',rfl,amV,rfl⟩:=hhi;rcases hlo with ⟨rfl,rfl⟩ | ⟨k2,i,rfl,J2,rfl⟩
 simp[bdY,Ki k j cap _ w hj hc,Ki k' i' _ _ w amV hh];simp[bdY,Ki k j cap _ w hj hc,Ki k' i' _ _ w amV hh,Ki k2 i _ _ w J2 hle]
def take_nil{c:Cx}{w:World}{g o:Nat}{cs:List AV}(l n:Nat)(h:A7 c w g o cs):A7 c w g (o+l) ((cs.drop l).take n):=(h.drop l).take n
def afK{P:Program}{c:Cx}{w:World}{t:TypeId}{x r:AV}{lo hi mx:Option AV}{v:Value}{lo' RM mx':Option Value}(h:Ml P t x lo hi mx=some r)(hx:Rp c w x v)(hlo:RO c w lo lo')(hhi:RO c w hi RM)(hmx:RO c w mx mx') :
   ∃u,(bfW t v lo' RM mx').run P w=.ok u w/\Rp c w r u:=by
 unfold Ml at h;split at h;rename_i hu;split at h;rename_i s;split at h;rename_i l hh e1 e2;split at h;rename_i hc;cases h;cases hx;cases hmx;have b1:=Uh e1 hlo;have b2:=Uh e2 hhi;rw[show s.data.toList.length=s.size from by simp] at b2 hc;refine⟨_,?_,.sc rfl⟩;simp only[bfW,bbA,run_underlying hu,baZ,bkO,Option.isSome_none,bbC,if_false,fN b1 b2 hc.1 hc.2,bcG];congr 2;apply ByteArray.ext;apply bbW;rw[Lib.extract_data];cases h;cases h;cases h
 ·rename_i elem hu
  split at h
  ·rename_i e own n cs he
   split at h
   ·rename_i l hh e1 e2
    split at h
    ·rename_i hc
     have b1:=Uh e1 hlo;have b2:=Uh e2 hhi
     have dM:∀(A:Option Addr)(cap:Nat),n<=cap->mx'=none->(bfW t (.slice A n cap) lo' RM mx').run P w=.ok (.slice (if cap=l then A else A.map (·.add (l*e.size))) (hh - l) (cap - l)) w:=by intro A cap hcap hm;subst hm;simp only[bfW,bbA,run_underlying hu,baZ,bkO,fN b1 b2 hc.1 (bbM hc.2.1 hcap),bcG,CL he]
     split at h
     ·cases h
      cases hmx;cases hx with
      |sl0 h0=>
       obtain⟨rfl,rfl⟩:l=0/\hh=0:=by omega
       refine⟨_,dM _ _ (bcJ _) rfl,?_⟩;simp only[blJ,blK,bgI,if_true,and_self];exact .sl0 (h0.re (by split<;>simp))
      |MT hn hcs ho=>
       rename_i cap g o;refine⟨_,dM _ _ hn rfl,?_⟩;by_cases GC:l=0/\hh=n;obtain⟨rfl,rfl⟩:=GC;simp only[Nat.zero_mul,List.drop_zero,bgI,and_self,if_true];rw[List.take_of_length_le (by rw[hc.2.2];exact aHT _)]
       have:(if cap=0 then some (⟨g,o,none⟩:Addr) else Option.map (λx:Addr=>x.add 0) (some ⟨g,o,none⟩))=some ⟨g,o,none⟩:=by split;rfl;simp[biD]
       rw[this];exact .MT hn hcs ho;rw[if_neg GC];by_cases hz:hh - l=0;have nP:((cs.drop (l*e.size)).take ((hh - l)*e.size))=[]:=by rw[hz];simp
       rw[nP,hz];by_cases hf:hh=n/\own=.full;rw[if_pos hf];obtain⟨rfl,rfl⟩:=hf;have:cap=hh:=ho;exact .sl0 (by show cap - l=0;omega);rw[if_neg hf];exact .sl0 trivial;have hne:¬cap=l:=by omega
       rw[if_neg hne];simp only[bbB,add_lit];refine .MT (by omega) ((hcs.drop _).take _) ?_;by_cases hf:hh=n/\own=.full;rw[if_pos hf];obtain⟨rfl,rfl⟩:=hf;have:cap=hh:=ho;show cap - l=hh - l;omega;rw[if_neg hf];trivial
     ·rename_i m
      split at h
      ·rename_i j hj
       split at h
       ·rename_i hjm
        cases h;obtain⟨rfl,aQJ⟩:=hjm;cases hmx with
        |some hm=>
         obtain⟨k,z,rfl,hz0,hz1⟩:=N8 hj hm
         have hi2:∃k i,RM=some (.int k i)/\0<=i/\i.toNat=hh:=by
          cases hhi with
          |none=>cases aQJ
          |some h1=>
           obtain⟨k,i,rfl,h2,h3⟩:=N8 e2 h1;exact⟨k,i,rfl,h2,h3⟩
         have aDB:∀(A:Option Addr)(cap:Nat),n<=cap->(bfW t (.slice A n cap) lo' RM (some (.int k z))).run P w=.ok (.slice (if hh=l then A else A.map (·.add (l*e.size))) (hh - l) (hh - l)) w:=by intro A cap hcap;simp only[bfW,bbA,run_underlying hu,baZ,bkO,uN b1 hi2 hc.1 hz0 (Nat.le_of_eq hz1.symm) (by rw[hz1];exact bbM hc.2.1 hcap),bcG,CL he];rw[hz1]
         cases hx with
         |sl0 h0=>
          obtain⟨rfl,rfl⟩:l=0/\hh=0:=by omega
          refine⟨_,aDB _ _ (bcJ _),?_⟩;simp only[blJ,blK,bgI,if_true];exact .sl0 rfl
         |MT hn hcs ho=>
          refine⟨_,aDB _ _ hn,?_⟩;by_cases hz:hh - l=0;have nP:((cs.drop (l*e.size)).take ((hh - l)*e.size))=[]:=by rw[hz];simp
          rw[nP,hz];exact .sl0 rfl;rw[if_neg (by omega)];simp only[bbB,add_lit];exact .MT (aHT _) ((hcs.drop _).take _) rfl
       cases h
      cases h
    cases h
   cases h
  cases h
 cases h
end AI
namespace AI
open Go Go.RowKit
def iE(P:Program)(s:AS)(size:Nat)(tx:TypeId)(b:AV):Option (Nat×List AV) :=
 match P.underlying tx,b with
 |some (.slice _),.sl _ n cs=>if cs.length=n*size then some (n,cs) else none
 |some (.slice _),.OG id off n=>match s.get id with|some (.cells cs)=>if off+n*size<=cs.length then some (n,(cs.drop off).take (n*size)) else none|_=>none
 |some .string,.sc (.string x)=>if size=1 then some (x.data.toList.length,x.data.toList.map λb=>.sc (.int .u8 b.toNat)) else none
 |_,_=>none
def akB(c:Cx)(w:World)(l:List UInt8):CF c w (l.map λb=>.sc (.int .u8 b.toNat)) (l.map λb=>.int .u8 b.toNat):=by induction l with|nil=>exact .nil|cons b l ih=>exact .cons (.sc rfl) ih
structure ajC(P:Program)(size:Nat)(tx:TypeId)(x:Value)(n:Nat)(news:List Value)(w:World):Prop where
 kind:(∃e',P.underlying tx=some (.slice e'))\/P.underlying tx=some .string
 len:∀w':World,(blL x).run P w'=.ok n w'
 cells:∀w':World,w'.heap=w.heap->(bcX size n x).run P w'=.ok news.toArray w'
def abE{P:Program}{G:AP}{c:Cx}{w:World}{s:AS}{size:Nat}{tx:TypeId}{b:AV}{x:Value}{n:Nat}{cs:List AV}(hs:St G c w s)(h:iE P s size tx b=some (n,cs))(hb:Rp c w b x) :
   ∃news,CF c w cs news/\news.length=n*size/\ajC P size tx x n news w:=by
 unfold iE at h;split at h
 ·rename_i e own n' cs' hu
  split at h
  ·rename_i hl
   cases h;cases hb with
   |@sl0 _ A cap _=>
    refine⟨[],.nil,by simp,.inl ⟨_,hu⟩,λ_=>rfl,λw' _=>?_⟩;cases A with|none=>simp[bcX]|some a=>simp[bcX,loadCells,loadCellsFrom]
   |MT hn hc ho=>
    obtain⟨vs,hr,Mf⟩:=hc.vals;have hlv:=hr.len;refine⟨vs,hr,by omega,.inl ⟨_,hu⟩,λ_=>rfl,λw' hw=>?_⟩;refine run_firstCells_some w' size n _ n _ vs (by omega) (λj v hj=>?_);rw[add_lit];have:=(Mf j v hj).2.2;rw[beY (w:=w) (by rw[hw])];exact this
  cases h
 ·rename_i e id off n' hu
  split at h
  ·rename_i cs' Qp
   split at h
   ·rename_i hl
    cases h;cases hb with
    |OG hn hid=>
     obtain⟨vs,ext,T,hw,hr⟩:=Uj hs hid Qp;have hlv:=hr.len;have hll:((vs.drop off).take (n*size)).length=n*size:=by rw[bbT,aUZ];omega
     refine⟨(vs.drop off).take (n*size),(hr.drop off).take _,hll,.inl ⟨_,hu⟩,λ_=>rfl,λw' hw'=>?_⟩;refine run_firstCells_some w' size n _ n _ _ hll (λj v hj=>?_);rw[add_lit]
     have hj2:vs[off+j]?=some v:=by rw[beD] at hj;split at hj;rw[bgE] at hj;exact hj;cases hj
     exact cell_of_heap (by rw[hw'];exact hw) (aI hj2)
   cases h
  cases h
 rename_i x' hu;split at h;rename_i h1;cases h;cases hb;subst h1;refine⟨_,akB c w _,by simp,.inr hu,λ_=>by simp[blL],λw' _=>?_⟩;simp only[bcX];rw[show x'.data.toList.length=x'.size from by simp];simp;apply bbW;simp;cases h;cases h
def AS.grow(s:AS)(r n:Nat):AS:=⟨s.h,s.nx,ahQ r n s.F,s.nr⟩
def AS.add(s:AS)(n:Nat):AS:=⟨s.h,s.nx,(s.nr,n)::s.F,s.nr+1⟩
section
variable {G:AP}{c:Cx}{w:World}{s:AS}
def St.oR(h:St G c w s){r n:Nat}(hr:DT r s.F=some n):r < c.rows.length:=by
 rcases h.H8 r n hr with h1 | ⟨g,cap,sz,h1⟩
 exact(aHS.1 h1.1).1;exact(aHS.1 h1).1
def Nt{l:List Rw}{r r':Nat}{x y:Rw}(h:(l.set r x)[r']?=some y):(r'=r/\y=x/\r < l.length)\/(r'≠r/\l[r']?=some y):=by by_cases e:r=r';subst e;have hl:=(aHS.1 h).1;rw[List.length_set] at hl;rw[bdN hl] at h;exact .inl ⟨rfl,(bbJ h).symm,hl⟩;rw[beH e] at h;exact .inr ⟨λx=>e x.symm,h⟩
def St.oS(h:St G c w s){r n0:Nat}(hF:DT r s.F=some n0){w':World}{g n cap sz:Nat}{vs:Array Value}{T:TypeId}(k:S4 w w' (λx=>x=g))(hb:c.base<=g)(hp:some g∉c.CG)(hlt:n0 < n)(hlh:n<=cap){f:Nat×Nat}(hw:w'.heap[g]?=some (.cells vs T f))(hf:f.2<=n*RC sz)(hsz:vs.size=cap*RC sz/\auD sz T)
   (hg:g=w.heap.size\/(c.rows[r]?=some (.Q2 g n0 cap sz)/\∀i v,i < n0*RC sz->w.cell? ⟨g,i,none⟩=some v->vs[i]?=some v)):
   Ext c w { c with rows:=c.rows.set r (.Q2 g n cap sz) } w'/\St G { c with rows:=c.rows.set r (.Q2 g n cap sz) } w' (s.grow r n):=by
 have baJ:g < w'.heap.size:=(aHQ.1 hw).1;have hrl:=h.oR hF
 have xY:∀(r':Nat) n' cap' OI,c.rows[r']?=some (.Q2 g n' cap' OI)->r'=r:=by
  intro r' n' cap' OI hr;rcases hg with rfl | ⟨hr0,_⟩
  have:=h.Pq hr;omega;exact h.H7 r' r g _ _ _ _ _ _ hr hr0
 have e:Ext c w { c with rows:=c.rows.set r (.Q2 g n cap sz) } w':=by
  refine⟨bdT _,by simp,λr' y hr hy=>?_,λg' i v hv=>⟨aUS hv.1 k.size,λhs=>?_,?_⟩,k.below h.RU (λx hx=>by rw[hx];exact hb),rfl,rfl,λ_ h=>.inl h,λr' g' n' cap' OI hr=>?_,λq hq _ hr=>?_⟩;rcases Nt hy with ⟨rfl,rfl,_⟩ | ⟨_,h1⟩
  rcases h.H8 r' n0 hF with ⟨h1,_⟩ | ⟨g1,aTX,sz1,h1⟩
  exact⟨_,h1,.inr (.inl rfl)⟩;exact⟨_,h1,.inr (.inr ⟨_,_,_,_,rfl,hlt⟩)⟩;exact⟨y,h1,K3.refl y⟩
  ·rcases hs with hs | ⟨r',n',cap',OI,hr,h1,h2⟩ | hs
   exact hv.2.1 (.inl hs);rotate_left;exact hv.2.1 (.inr (.inr hs));rcases Nt hr with ⟨rfl,h3,_⟩ | ⟨_,h3⟩
   injection h3 with e1 e2 e3 e4
   subst e1 e2 e3 e4;rcases hg with rfl | ⟨hr0,_⟩
   have:=hv.1;omega;have:=bdE (RC OI) (bjY hlt);exact hv.2.1 (.inr (.inl ⟨r',n0,cap',OI,hr0,by omega,h2⟩));exact hv.2.1 (.inr (.inl ⟨r',n',cap',OI,h3,h1,h2⟩))
  by_cases hgg:g'=g;subst hgg;rcases hg with rfl | ⟨hr0,aPZ⟩
  have:=hv.1;omega
  have hi1:i < n0*RC sz:=by by_cases hlt:i < n0*RC sz;exact hlt;exfalso;obtain⟨_,_,_,_,vs0,T0,⟨f0,hh0,_⟩,baP,_⟩:=h.row r g' n0 cap sz hr0;have hc:=hv.2.2;have hns:¬i < cap*RC sz:=λaVW=>hv.2.1 (.inr (.inl ⟨r,n0,cap,sz,hr0,by omega,aVW⟩));simp[bcM,hh0] at hc;have:=(aHQ.1 hc).1;omega
  have:=aPZ i v hi1 hv.2.2;simp[bcM,hw,this];rw[k.cell hv.1 hgg];exact hv.2.2;rcases Nt hr with ⟨rfl,h1,_⟩ | ⟨_,h1⟩
  injection h1 with e1 _
  subst e1;rcases hg with rfl | ⟨hr0,_⟩
  exact .inr (aHT _);exact .inl ⟨r',n0,_,_,hr0⟩;exact .inl ⟨r',n',cap',OI,h1⟩;refine k.block q hq (λe=>?_);subst e;rcases hg with rfl | ⟨hr0,_⟩
  omega;exact hr r _ _ _ hr0
 refine⟨e,⟨h.len,h.desc,h.nodup,h.low,λid g' b' h1 h2=>?_,by simp[AS.grow,h.IG],λr' g' n' cap' OI hr=>?_,λr' n' hr=>?_,λg hg=>aUS (h.NM g hg) k.size,λg i hb=>aUS (h.Nz g i hb) k.size,λr1 r2 g' n1 c1 s1 n2 c2 s2 hr hO=>?_,λg' cs hg'=>(h.Mr g' cs hg').mono e,bbM h.RU k.size,h.Od.mono e⟩⟩;obtain⟨o',ho,Qp⟩:=h.box id g' b' h1 h2;exact⟨o',by rw[k.block g' (aHQ.1 ho).1 (λe=>hp (by rw[<- e];exact aUV h1))];exact ho,Qp.mono e⟩;rcases Nt hr with ⟨rfl,h2,_⟩ | ⟨hne,h1⟩
 injection h2 with e1 e2 e3 e4
 subst e1 e2 e3 e4;refine⟨λi Me=>?_,hb,hp,hlh,vs,T,⟨f,hw,hf⟩,hsz⟩;rcases hg with rfl | ⟨hr0,_⟩
 have:=h.Nz _ i Me;omega;exact(h.row r' _ _ _ _ hr0).1 i Me;obtain⟨a1,a2,a3,a4,vs',T',⟨f',ho,iK⟩,a5⟩:=h.row r' g' n' cap' OI h1
 have hne:¬g'=g:=λe=>by
  subst e;exact hne (xY r' _ _ _ h1)
 exact⟨a1,a2,a3,a4,vs',T',⟨f',by rw[k.block g' (aHQ.1 ho).1 hne];exact ho,iK⟩,a5⟩;rcases lF hr with ⟨rfl,rfl,_⟩ | ⟨hne,h2⟩
 exact .inr ⟨g,cap,sz,bdN hrl⟩;simp only;rw[beH (λe=>hne e.symm)];exact h.H8 r' n' h2;rcases Nt hr with ⟨rfl,h2,_⟩ | ⟨hn1,h1⟩<;>rcases Nt hO with ⟨rfl,h4,_⟩ | ⟨hn2,h3⟩
 rfl;injection h2 with e1
 subst e1;exact(xY r2 _ _ _ h3).symm;injection h4 with e1
 subst e1;exact xY r1 _ _ _ h1;exact h.H7 r1 r2 g' _ _ _ _ _ _ h1 h3
def St.azA(h:St G c w s){w':World}{n cap sz:Nat}{vs:Array Value}{T:TypeId}(k:S4 w w' (λx=>x=w.heap.size))(hn:0 < n)(hlh:n<=cap)(hw:w'.heap[w.heap.size]?=some (.cells vs T (0,0)))(hsz:vs.size=cap*RC sz/\auD sz T) :
   Ext c w { c with rows:=c.rows++[.Q2 w.heap.size n cap sz] } w'/\St G { c with rows:=c.rows++[.Q2 w.heap.size n cap sz] } w' (s.add n):=by
 obtain⟨e1,st1⟩:=h.tok
 have hl:DT s.nr s.tok.F=some 0:=by simp only[AS.tok,DT];split;rfl;rename_i hb;exact absurd rfl (beq_false hb)
 have hp:some w.heap.size∉c.CG:=λhm=>by have:=h.NL hm;omega
 obtain⟨e2,XV⟩:=st1.oS hl (g:=w.heap.size) (n:=n) (cap:=cap) (sz:=sz) k h.RU hp hn hlh hw (bcJ _) hsz (.inl rfl)
 have hs:(c.rows++[Rw.new]).set s.nr (.Q2 w.heap.size n cap sz)=c.rows++[.Q2 w.heap.size n cap sz]:=by rw[h.IG,biU _ _ (aHT _)];simp
 have hf:s.tok.grow s.nr n=s.add n:=by simp only[AS.tok,AS.grow,AS.add,ahQ];have:bcA s.nr s.nr=true:=bgK _;rw[this]
 simp only[hs] at e2 XV;rw[hf] at XV;exact⟨e1.trans e2,XV⟩
end
end AI
namespace AI
open Go Go.RowKit
def So{P:Program}{w:World}{t tx ty e:TypeId}{i:TypeInfo}(ht:P.underlying t=some (.slice e))(hi:P.info? e=some i){base:Option Addr}{n cap m:Nat}{x:Value}{news:List Value}(hs:ajC P i.size tx x m news w)(WY:n+m<=cap){w':World}
   (E5:∀a,base=some a->(storeCells (a.add (n*i.size)) news).run P w=.ok () w') (hno:base=none->w'=w):
   (bdM #[t,tx] ty #[.slice base n cap,x]).run P w=.ok (.slice base (n+m) cap) w':=by
 have hc:=hs.cells w rfl;cases base with
 |none=>
  have:=hno rfl;subst this;rcases hs.kind with ⟨e',hk⟩ | hk<;>simp[bdM,run_underlying ht,run_underlying hk,bhM,typeInfo,hi,hs.len,WY,hc]
 |some a=>
  have:=E5 a rfl;rcases hs.kind with ⟨e',hk⟩ | hk<;>simp[bdM,run_underlying ht,run_underlying hk,bhM,typeInfo,hi,hs.len,WY,hc,this]
def XC{P:Program}{w:World}{t tx ty e:TypeId}{i:TypeInfo}{z:Value}(ht:P.underlying t=some (.slice e))(hi:P.info? e=some i)(hz:i.zero=some z){base:Option Addr}{n cap m:Nat}{x:Value}{olds news:List Value}(hs:ajC P i.size tx x m news w)
   (hold:(bcX i.size n (.slice base n cap)).run P { w with drawn:=w.drawn+1 }=.ok olds.toArray { w with drawn:=w.drawn+1 }) (hg:cap < n+m) (h63:n+m<=9223372036854775807) (hb:(n+m)*i.bytes<=140737488355328):
   ∃cap',n+m<=cap'/\(bdM #[t,tx] ty #[.slice base n cap,x]).run P w=.ok (.slice (some ⟨w.heap.size,0,none⟩) (n+m) cap') { w with drawn:=w.drawn+1,heap:=w.heap.push (.cells ((olds++news).toArray++bbY z.cells (cap' - (n+m))) e) }:=by
 have hn:¬(n+m<=cap):=by omega
 have aUP:¬(9223372036854775807 < ((n:Int)+(m:Int))):=by omega
 have awL:=growslice_fits hg hb;have aUO:¬(281474976710656 < Builtin.nextslicecap (n+m) cap*i.bytes):=by omega
 have hc:=hs.cells { w with drawn:=w.drawn+1 } rfl
 refine⟨(bhN (n+m) cap e).cut (w.tape w.drawn (.appendCap (n+m) cap e)),by simp[Question.cut],?_⟩;have nI:(bcX i.size m x).run P w.drew=.ok news.toArray w.drew:=hc;have aQB:(bcX i.size n (.slice base n cap)).run P w.drew=.ok olds.toArray w.drew:=hold
 have amM:olds.toArray++(news.toArray++bbY z.cells ((bhN (n+m) cap e).cut (w.tape w.drawn (.appendCap (n+m) cap e)) - (n+m)))=(olds++news).toArray++bbY z.cells ((bhN (n+m) cap e).cut (w.tape w.drawn (.appendCap (n+m) cap e)) - (n+m)):=by apply bbW;simp
 rcases hs.kind with ⟨e',hk⟩ | hk <;>
  (simp[bdM,run_underlying ht,run_underlying hk,bhM,typeInfo,zeroValue,hi,hz,hs.len,hn,aUP,aUO,Question.forced,nI,aQB,newRow]
   rw[amM];rfl)
def KC(sz:Nat)(F:List (Nat×Nat))(n:Nat):Own->Bool
 |.full=>true
 |.row r z=>z == sz&&(match DT r F with | some k=>k == n | none=>false)
 |_=>false
def acV(s:AS)(sz:Nat):Own->Own
 |.row r _=>.row r sz
 |_=>.row s.nr sz
def AS.to(s:AS)(n:Nat):Own->AS
 |.row r _=>s.grow r n
 |_=>s.add n
def Lx(P:Program)(s:AS)(t tx:TypeId)(a b:AV):Option (AV×AS) :=
 match P.underlying t with
 |some (.slice e)=>match P.info? e with
  |some i=>match i.zero with
   |some z=>if z.cells.size=i.size/\0 < i.size then (match a,iE P s i.size tx b with
    |.sl own n cs,some (m,ns)=>if cs.length=n*i.size/\ns.all one=true/\(n+m)*i.bytes<=140737488355328/\n+m<=9223372036854775807 then
     (if m=0 then some (.sl own n cs,s)
      else if KC i.size s.F n own=true then some (.sl (acV s i.size own) (n+m) (cs++ns),s.to (n+m) own)
      else if KC 0 s.F n own=true/\i.size=1/\e=u8T then some (.sl (acV s 0 own) (n+m) (cs++ns),s.to (n+m) own) else none)
     else none
    |_,_=>none) else none
   |none=>none
  |none=>none
 |_=>none
def Y3{P:Program}{c:Cx}{w:World}{own:Own}{n size:Nat}{cs:List AV}{v:Value}(h:Rp c w (.sl own n cs) v)(hl:cs.length=n*size) :
   ∃base cap olds,v=.slice base n cap/\n<=cap/\CF c w cs olds/\olds.length=n*size/\∀w':World,w'.heap=w.heap->(bcX size n (.slice base n cap)).run P w'=.ok olds.toArray w':=by
 cases h with
 |@sl0 _ A cap h0=>
  refine⟨A,cap,[],rfl,bcJ _,.nil,by simp,λw' _=>?_⟩;cases A with|none=>simp[bcX]|some a=>simp[bcX,loadCells,loadCellsFrom]
 |@MT _ _ cap g o _ hn hc ho=>
  obtain⟨vs,hr,Mf⟩:=hc.vals;have hlv:=hr.len;refine⟨_,cap,vs,rfl,hn,hr,by omega,λw' hw=>run_firstCells_some w' size n _ n _ vs (by omega) (λj v hj=>?_)⟩;rw[add_lit,beY (w:=w) (by rw[hw])];exact(Mf j v hj).2.2
def run_storeCells_atF(P:Program)(g o:Nat)(t:TypeId)(f:Nat×Nat)(hf:f.2<=o):∀(vs:List Value)(i:Nat)(cur:Array Value)(w:World),w.heap[g]?=some (.cells cur t f)->o+i+vs.length<=cur.size->(∀v∈vs,v.oneCell'=true) ->
 (storeCells ⟨g,o,none⟩ vs i).run P w=.ok () (w.setRow g (cur.toList.take (o+i)++vs++cur.toList.drop (o+i+vs.length)).toArray)
 |[],i,cur,w,hg,_,_=>by
  simp only[storeCells,bfX,List.length_nil,bcS,List.take_append_drop,bcV];rw[setRow_self w g cur t f hg];rfl
 |v::rest,i,cur,w,hg,hl,h1=>by
  have hi:o+i < cur.size:=by simp at hl;omega
  have hadd:(⟨g,o,none⟩:Addr).add i=⟨g,o+i,none⟩:=by unfold biD;split<;>simp_all
  have aPQ:w.cell? ⟨g,o+i,none⟩=some cur[o+i]:=by simp[bcM,hg,hi]
  have aVJ:w.frozen? ⟨g,o+i,none⟩=false:=by obtain⟨lo,RM⟩:=f;simp only[World.frozen?,hg];simp only at hf;rw[Bool.and_eq_false_iff];exact .inr (by simp;omega)
  have E5:(store ((⟨g,o,none⟩:Addr).add i) v).run P w=.ok () (w.setRow g (cur.setIfInBounds (o+i) v)):=by rw[hadd,run_store P w _ v _ (h1 v (by simp)),aPQ];simp[aVJ,setCell_eq_setRow w g (o+i) cur t f v hg]
  have ih:=run_storeCells_atF P g o t f hf rest (i+1) (cur.setIfInBounds (o+i) v) (w.setRow g (cur.setIfInBounds (o+i) v)) (setRow_heap w g cur _ t _ hg) (by simp at hl ⊢;omega) (λx hx=>h1 x (by simp[hx]));simp only[storeCells,bbA,E5,baZ,ih,setRow_setRow];congr 3;have e:=list_seg_step cur.toList (o+i) v rest (by simp at hl ⊢;omega);simpa[bhO,bdW] using e
def lV{c:Cx}{w':World}{g n m sz cap:Nat}{T:TypeId}{f:Nat×Nat}{all olds news:List Value}{rows:List Rw}(hw:w'.heap[g]?=some (.cells all.toArray T f))(GC:∀(j:Nat) v,(olds++news)[j]?=some v->all[j]?=some v)(hp:some g∉c.CG)(hb:∀i,¬c.bad g i)
   (hol:olds.length=n*RC sz) (hnl:news.length=m*RC sz) (hrow:∀(r:Nat) n' cap' OI,rows[r]?=some (.Q2 g n' cap' OI)->n'=n+m/\cap'=cap/\OI=sz) {j:Nat}{v:Value} (hj:(olds++news)[j]?=some v):RI { c with rows:=rows } w' g j v:=by
 have hjl:=(aHS.1 hj).1;rw[cZ] at hjl;refine⟨(aHQ.1 hw).1,λhs=>?_,cell_of_heap hw (GC j v hj)⟩;rcases hs with hs | ⟨r,n',cap',OI,hr,h1,h2⟩ | hs
 exact hp hs;obtain⟨rfl,rfl,rfl⟩:=hrow r n' cap' OI hr;rw[bdL] at h1;omega;exact hb j hs
def wM{P:Program}{G:AP}{c:Cx}{w:World}{s s':AS}{t tx ty:TypeId}{a b r:AV}{va vb:Value}(hs:St G c w s)(h:Lx P s t tx a b=some (r,s'))(ha:Rp c w a va)(hb:Rp c w b vb) :
   ∃u w' c',(bdM #[t,tx] ty #[va,vb]).run P w=.ok u w'/\Ext c w c' w'/\St G c' w' s'/\Rp c' w' r u:=by
 unfold Lx at h;split at h
 ·rename_i e ht
  split at h
  ·rename_i i hi
   split at h
   ·rename_i z hz
    split at h
    ·rename_i hzs
     split at h
     ·rename_i own n cs m ns aWJ
      split at h
      ·rename_i hc
       obtain⟨news,hnr,hnl,hsi⟩:=abE hs aWJ hb;split at h;rename_i hm;cases h;subst hm;have nP:news=[]:=bbD (by simpa using hnl)
       subst nP;obtain⟨base,cap,olds,rfl,hcap,_,_,_⟩:=Y3 (P:=P) (size:=i.size) ha hc.1;refine⟨.slice base n cap,w,c,?_,Ext.refl c w,hs,ha⟩;exact So ht hi hsi (by omega) (λa _=>by simp[storeCells]) (λ_=>rfl)
       ·rename_i hm
        have key:∀zc,RC zc=i.size->auD zc e->KC zc s.F n own=true->∃u w' c',(bdM #[t,tx] ty #[va,vb]).run P w=.ok u w'/\Ext c w c' w'/\St G c' w' (s.to (n+m) own)/\Rp c' w' (.sl (acV s zc own) (n+m) (cs++ns)) u:=by
         intro zc hzz hze Lv;obtain⟨base,cap,olds,rfl,hcap,hor,hol,hfc⟩:=Y3 (P:=P) (size:=i.size) ha hc.1;by_cases WY:n+m<=cap
         ·cases ha with
          |sl0 h0=>
           exfalso;cases own with|full=>have:cap=0:=h0;omega|row r z=>have:cap=0:=h0.1;omega|lost=>simp[KC] at Lv|nil=>simp[KC] at Lv|nn=>simp[KC] at Lv|zero=>simp[KC] at Lv
          |@MT _ _ _ g o _ hn hcs ho=>
           cases own with
           |full=>exfalso;have:cap=n:=ho;omega
           |lost=>simp[KC] at Lv
           |nil=>simp[KC] at Lv
           |nn=>simp[KC] at Lv
           |zero=>simp[KC] at Lv
           |row r0 sz=>
            simp only[KC,aUR,beq_iff_eq] at Lv;obtain⟨rfl,hF⟩:=Lv
            have hF:DT r0 s.F=some n:=by split at hF;rename_i k hk;rw[hk,beq_iff_eq.1 hF];cases hF
            obtain⟨rfl,hlen,baM,nQ,aQG⟩:=ho;rcases hs.H8 r0 n hF with ⟨h1,_⟩ | ⟨g',cap',OI,hrow⟩
            exact absurd h1 nQ;obtain⟨rfl,rfl,rfl⟩:=(aQG _ _ _ _ hrow).2 rfl;obtain⟨hgb,hbg,hgp,hlh,cur,T,⟨f,awJ,hff⟩,aPT,hty⟩:=hs.row r0 g' _ _ _ hrow;rw[hzz] at hff aPT;have awL:n*i.size+news.length<=cur.size:=by rw[hnl,aPT,<- bdL];exact bdE _ WY
            have E5:=run_storeCells_atF P g' (n*i.size) T f hff news 0 cur w awJ (by simpa using awL) (Xd hnr hc.2.1)
            simp only[bcS] at E5;have VG:=setRow_heap w g' cur (cur.toList.take (n*i.size)++news++cur.toList.drop (n*i.size+news.length)).toArray T f awJ
            have aVF:cur.toList.take (n*i.size)=olds:=by
             obtain⟨vs,hr,Mf⟩:=hcs.vals;have h1:=hfc w rfl;have h2:=run_firstCells_some (P:=P) w i.size n ⟨g',0,none⟩ n cap' vs (by rw[hr.len];exact hc.1) (λj v hj=>by rw[add_lit];exact(Mf j v hj).2.2);rw[h1] at h2;injection h2 with h2 _
             have h3:olds=vs:=by simpa using congrArg Array.toList h2
             subst h3;apply beZ;intro j;rw[beD];by_cases hj:j < n*i.size;rw[if_pos hj];have hj2:j < olds.length:=by omega
             have:=(Mf j _ (atS hj2)).2.2;rw[aUU] at this;simp only[bcM,awJ] at this;rw[atS hj2,bbE];simpa using this
             rw[if_neg hj,List.getElem?_eq_none (by omega)]
            obtain⟨x,st⟩:=hs.oS hF (g:=g') (n:=n+m) (cap:=cap') (sz:=_) (T:=T) (GB w g' (cur.toList.take (n*i.size)++news++cur.toList.drop (n*i.size+news.length)).toArray) hbg hgp (by omega) WY VG (by rw[hzz];exact bbM hff (bdE _ (Nat.le_add_right _ _))) ⟨by rw[hzz];simp only[bcW,cZ,bbT,aUZ,bbN];omega,hty⟩
              (.inr ⟨hrow,λj v hj hv=>by
               rw[hzz] at hj;rw[bdQ,beJ,aUY (by rw[bbT,bbN];omega),beD,if_pos hj];simpa[bcM,awJ] using hv⟩)
            refine⟨_,_,_,So ht hi hsi WY (λa ha=>by cases ha;rw[add_lit,aUU];exact E5) (λh=>by cases h),x,st,?_⟩;have hrl:=hs.oR hF;refine .MT WY (A7.R8 ((hor.append hnr).mono x) (λj v hj=>?_)) ⟨rfl,by rw[hzz,cZ,hc.1,<- hnr.len,hnl,bdL],by simpa using hrl,λh2=>?_,λg2 n2 c2 s2 h2=>?_⟩
            rw[aUU];refine lV (olds:=olds) (news:=news) (cap:=cap') VG (λj v hj=>?_) hgp hgb (by rw[hzz];exact hol) (by rw[hzz];exact hnl) (λr n' aZQ baY hr=>?_) hj;rw[<- aVF] at hj;have hjl:=(aHS.1 hj).1;rw[aUY hjl];exact hj;rcases Nt hr with ⟨rfl,h1,_⟩ | ⟨hne,h1⟩
            injection h1 with _ e2 e3 e4
            exact⟨e2,e3,e4⟩;exact absurd (hs.H7 r r0 g' _ _ _ _ _ _ h1 hrow) hne;simp only at h2;rw[bdN hrl] at h2;cases h2;simp only at h2;rw[bdN hrl] at h2;injection h2 with h2
            injection h2 with e1 e2 e3 e4
            subst e1 e2 e3 e4;exact⟨aHT _,λ_=>⟨rfl,rfl,rfl⟩⟩
         ·obtain⟨cap',abW,dM⟩:=XC (ty:=ty) ht hi hz hsi (hfc { w with drawn:=w.drawn+1 } rfl) (by omega) hc.2.2.2 hc.2.2.1
          have hzc:(bbY z.cells (cap' - (n+m))).size=(cap' - (n+m))*i.size:=by rw[size_zeroCells,hzs.1]
          have hk:S4 w { w with drawn:=w.drawn+1,heap:=w.heap.push (.cells ((olds++news).toArray++bbY z.cells (cap' - (n+m))) e) } (λx=>x=w.heap.size) :=
           ⟨rfl,rfl,rfl,by simp,λk hk _=>by simp[bhH];intro h;omega⟩
          have VG:({ w with drawn:=w.drawn+1,heap:=w.heap.push (.cells ((olds++news).toArray++bbY z.cells (cap' - (n+m))) e) }:World).heap[w.heap.size]?=some (.cells ((olds++news).toArray++bbY z.cells (cap' - (n+m))) e (0,0)):=by simp
          have aQA:({ w with drawn:=w.drawn+1,heap:=w.heap.push (.cells ((olds++news).toArray++bbY z.cells (cap' - (n+m))) e) }:World).heap[w.heap.size]?=some (.cells ((olds++news)++(bbY z.cells (cap' - (n+m))).toList).toArray e (0,0)):=by rw[VG];congr 2;apply bbW;simp
          have hpn:some w.heap.size∉c.CG:=λhm=>by have:=hs.NL hm;omega
          have hbn:∀i,¬c.bad w.heap.size i:=λi hb=>by have:=hs.Nz _ i hb;omega
          have hsz:((olds++news).toArray++bbY z.cells (cap' - (n+m))).size=cap'*i.size:=by simp only[Array.size_append,bcW,cZ,hol,hnl,hzc,<- bdL];congr 1;omega
          have aQF:∀(r:Nat) n' c' s',c.rows[r]?≠some (.Q2 w.heap.size n' c' s'):=λr n' c' s' hr=>by have:=hs.Pq hr;omega
          have fin:∀(rows:List Rw)(r:Nat),rows[r]?=some (.Q2 w.heap.size (n+m) cap' zc)->(∀(r':Nat) n' c' s',rows[r']?=some (.Q2 w.heap.size n' c' s')->n'=n+m/\c'=cap'/\s'=zc)->Ext c w { c with rows:=rows } { w with drawn:=w.drawn+1,heap:=w.heap.push (.cells ((olds++news).toArray++bbY z.cells (cap' - (n+m))) e) } ->
           Rp { c with rows:=rows } { w with drawn:=w.drawn+1,heap:=w.heap.push (.cells ((olds++news).toArray++bbY z.cells (cap' - (n+m))) e) } (.sl (.row r zc) (n+m) (cs++ns)) (.slice (some ⟨w.heap.size,0,none⟩) (n+m) cap'):=by
           intro rows r hr GC x;refine .MT abW (A7.R8 ((hor.append hnr).mono x) (λj v hj=>?_)) ⟨rfl,by rw[hzz,cZ,hc.1,<- hnr.len,hnl,bdL],(aHS.1 hr).1,λh2=>?_,λg2 n2 c2 s2 h2=>?_⟩;rw[aUU];refine lV (olds:=olds) (news:=news) (cap:=cap') aQA (λj v hj=>?_) hpn hbn (sz:=zc) (by rw[hzz];exact hol) (by rw[hzz];exact hnl) GC hj;rw[aUY (aHS.1 hj).1];exact hj;simp only at h2;rw[hr] at h2;cases h2;simp only at h2;rw[hr] at h2;injection h2 with h2
           injection h2 with e1 e2 e3 e4
           subst e1 e2 e3 e4;exact⟨aHT _,λ_=>⟨rfl,rfl,rfl⟩⟩
          have azB:∀r sz,KC zc s.F n (.row r sz)=true->∃u w' c',(bdM #[t,tx] ty #[.slice base n cap,vb]).run P w=.ok u w'/\Ext c w c' w'/\St G c' w' (s.grow r (n+m))/\Rp c' w' (.sl (.row r zc) (n+m) (cs++ns)) u:=by
           intro r sz Lv;simp only[KC,aUR,beq_iff_eq] at Lv
           have hF:DT r s.F=some n:=by have hF:=Lv.2;split at hF;rename_i k hk;rw[hk,beq_iff_eq.1 hF];cases hF
           have hrl:=hs.oR hF;obtain⟨x,st⟩:=hs.oS hF (g:=w.heap.size) (n:=n+m) (cap:=cap') (sz:=zc) (T:=e) hk hs.RU hpn (by omega) abW VG (bcJ _) ⟨by rw[hzz];exact hsz,hze⟩ (.inl rfl);refine⟨_,_,_,dM,x,st,fin _ r (bdN hrl) (λr' n' c' s' hr=>?_) x⟩;rcases Nt hr with ⟨rfl,h1,_⟩ | ⟨hne,h1⟩
           injection h1 with _ e2 e3 e4
           exact⟨e2,e3,e4⟩;exact absurd h1 (aQF _ _ _ _)
          cases own with
          |lost=>simp[KC] at Lv
          |nil=>simp[KC] at Lv
          |nn=>simp[KC] at Lv
          |zero=>simp[KC] at Lv
          |row r sz=>exact azB r sz Lv
          |full=>
           obtain⟨x,st⟩:=hs.azA (n:=n+m) (cap:=cap') (sz:=zc) (T:=e) hk (by omega) abW VG ⟨by rw[hzz];exact hsz,hze⟩;refine⟨_,_,_,dM,x,st,fin _ s.nr (by rw[hs.IG];exact bdJ) (λr' n' c' s' hr=>?_) x⟩;by_cases hr2:r' < c.rows.length;rw[aUY hr2] at hr;exact absurd hr (aQF _ _ _ _);have hl:=(aHS.1 hr).1;simp at hl;have:r'=c.rows.length:=by omega
           subst this;rw[bdJ] at hr;injection hr with hr
           injection hr with _ e2 e3 e4
           exact⟨e2.symm,e3.symm,e4.symm⟩
        split at h;rename_i Lv;cases h;exact key i.size (by unfold RC;omega) (λhz0=>by omega) Lv;split at h;rename_i Lv;cases h;exact key 0 (by rw[Lv.2.1];rfl) (λ_=>Lv.2.2) Lv.1;cases h
      cases h
     cases h
    cases h
   cases h
  cases h
 cases h
end AI
namespace AI
open Go Go.RowKit
def plainKey:TypeDesc->Bool
 |.int _ | .string | .bool=>true
 |_=>false
def Zp:TypeDesc->Value->Value->Option Bool
 |.int _,.int k a,.int k' b=>if k=k' then some (a == b) else none
 |.string,.string a,.string b=>some (a.data.toList == b.data.toList)
 |.bool,.bool a,.bool b=>some (a == b)
 |_,_,_=>none
def ajV(a b:ByteArray):(a == b)=(a.data.toList == b.data.toList):=by obtain⟨⟨a⟩⟩:=a;obtain⟨⟨b⟩⟩:=b;show((⟨a⟩:Array UInt8) == ⟨b⟩)=(a == b);simp
def fP(d:TypeDesc)(a b:Value):blM d a b=Zp d a b:=by unfold Zp;split<;>simp_all [blM,ajV]
def fO{d:TypeDesc}{a b:Value}(h:Zp d a b=some true):bhP 10000 b a=true:=by unfold Zp at h;split at h;split at h;rename_i e;subst e;simp at h;subst h;simp[bhP];cases h;rename_i x y;simp only[aUQ,beq_iff_eq] at h;simp[bhP,ajV,h];simp at h;subst h;simp[bhP];cases h
def Wx(d:TypeDesc)(k:Value):List (Value×AV×Nat)->Nat->Option (Option (Nat×AV))
 |[],_=>some none
 |e::es,i=>match Zp d k e.1 with|some true=>some (some (i,e.2.1))|some false=>Wx d k es (i+1)|none=>none
def QW{c:Cx}{w:World}{d:TypeDesc}{k:Value}{es:List (Value×AV×Nat)}{fs:List MapEntry}(h:Mb c w es fs){i:Nat}{r:Option (Nat×AV)}(hf:Wx d k es i=some r) :
   (r=none/\beS d k fs i=some none)\/∃j a v e f,r=some (i+j,a)/\beS d k fs i=some (some (i+j,v))/\Rp c w a v/\es[j]?=some e/\fs[j]?=some f/\e.2.1=a/\f.val=v/\f.key=e.1/\f.born=e.2.2/\Zp d k e.1=some true:=by
 induction h generalizing i r with
 |nil=>simp[Wx] at hf;subst hf;exact .inl ⟨rfl,rfl⟩
 |@cons k' a v b es fs h1 _ ih=>
  simp only[Wx] at hf;split at hf;rename_i hs;cases hf;refine .inr ⟨0,a,v,(k',a,b),⟨k',v,b⟩,rfl,?_,h1,rfl,rfl,rfl,rfl,rfl,rfl,hs⟩;simp only[beS,fP,hs,bcS];rename_i hs;rcases ih hf with ⟨h2,h3⟩ | ⟨j,a',v',e,f,h2,h3,h4,h5,h6,h7⟩
  refine .inl ⟨h2,?_⟩;simp only[beS,fP,hs];exact h3;refine .inr ⟨j+1,a',v',e,f,by rw[h2];congr 2;omega,?_,h4,by simpa using h5,by simpa using h6,h7⟩
  simp only[beS,fP,hs];rw[h3];congr 3;omega;cases hf
def Mb.set{c:Cx}{w:World}{es:List (Value×AV×Nat)}{fs:List MapEntry}(h:Mb c w es fs){k:Value}{a:AV}{v:Value}{b:Nat}(hr:Rp c w a v)(i:Nat):Mb c w (es.set i (k,a,b)) (fs.set i ⟨k,v,b⟩):=by
 induction h generalizing i with
 |nil=>exact .nil
 |cons h1 t ih=>
  cases i with|zero=>exact .cons hr t|succ i=>exact .cons h1 (ih i)
def Mb.snoc{c:Cx}{w:World}{es:List (Value×AV×Nat)}{fs:List MapEntry}(h:Mb c w es fs){k:Value}{a:AV}{v:Value}{b:Nat}(hr:Rp c w a v):Mb c w (es++[(k,a,b)]) (fs++[⟨k,v,b⟩]):=by induction h with|nil=>exact .cons hr .nil|cons h1 _ ih=>exact .cons h1 ih
def Mb.len{c:Cx}{w:World}{es:List (Value×AV×Nat)}{fs:List MapEntry}(h:Mb c w es fs):fs.length=es.length:=by induction h with|nil=>rfl|cons _ _ ih=>simp[ih]
def WD{G:AP}{c:Cx}{w:World}{s:AS}(hs:St G c w s){id g:Nat}{es:List (Value×AV×Nat)}{clock:Nat}(hid:c.CG[id]?=some (some g))(hb:s.get id=some (.map es clock)):∃fs,w.heap[g]?=some (.map fs.toArray clock)/\Mb c w es fs:=by obtain⟨o,ho,rQ⟩:=hs.box id g _ hid hb;cases rQ with|map h1=>exact⟨_,ho,h1⟩
def J0{P:Program}{w:World}{g:Nat}{es:Array MapEntry}{cl:Nat}(h:w.heap[g]?=some (.map es cl)):(getObj g).run P w=.ok (.map es cl) w:=by simp[getObj,Sem.run,h]
def Pu{P:Program}{w:World}{g:Nat}{es:Array MapEntry}{cl:Nat}(o:Obj)(h:w.heap[g]?=some (.map es cl)):(setObj g o).run P w=.ok () { w with heap:=w.heap.setIfInBounds g o }:=by simp[setObj,Sem.run,h]
def WJ(w:World)(g:Nat)(o:Obj):S4 w { w with heap:=w.heap.setIfInBounds g o } (λx=>x=g) :=
 ⟨rfl,rfl,rfl,by simp,λk _ hne=>by simp only;rw[bfC (λe=>hne e.symm)]⟩
def XE(w:World){g:Nat}{o o':Obj}(h:w.heap[g]?=some o'):({ w with heap:=w.heap.setIfInBounds g o }:World).heap[g]?=some o:=by have:=(aHQ.1 h).1;simp[this]
def run_checkKey{P:Program}{kt:TypeId}{kd:TypeDesc}{v:Value}(b:Bool)(h:P.underlying kt=some kd)(hp:plainKey kd=true)(w:World):(bkY b 10000 kt v).run P w=.ok () w:=by unfold bkY;rw[bbA,run_underlying h];cases kd<;>first | (simp[plainKey] at hp;done) | rfl
def run_findKey{P:Program}{kt:TypeId}{kd:TypeDesc}{v:Value}{es:List MapEntry}{r:Option (Nat×Value)}(h:P.underlying kt=some kd)(hf:beS kd v es 0=some r)(w:World):(blN kt v es).run P w=.ok r w:=by unfold blN;rw[bbA,run_underlying h];simp[hf]
def LA(P:Program)(t:TypeId):Option AV :=
 match P.info? t with
 |some i=>match i.zero with|some z=>Zl z|none=>none
 |none=>none
def jS{P:Program}{t:TypeId}{a:AV}(h:LA P t=some a):SJ a=false:=by unfold LA at h;split at h;split at h;exact yT h;cases h;cases h
def WB{P:Program}{t:TypeId}{a:AV}(h:LA P t=some a)(c:Cx)(w w0:World):∃z,(zeroValue t).run P w0=.ok z w0/\Rp c w a z:=by unfold LA at h;split at h;rename_i i hi;split at h;rename_i z hz;exact⟨z,by simp[zeroValue,typeInfo,hi,hz],sS h c w⟩;cases h;cases h
def IR(P:Program)(s:AS)(t:TypeId)(x k:AV)(ok:Bool):Option AV :=
 match P.underlying t with
 |some (.map kt et)=>match P.underlying kt,Z7 k with
  |some kd,some key=>if plainKey kd=true then
   (match (match x with
    |.sc (.map none)=>some []
    |.mp id=>match s.get id with|some (.map es _)=>some es|_=>none
    |_=>none) with
   |some es=>match Wx kd key es 0 with|some (some (_,v))=>some (if ok then .DW [v,.sc (.bool true)] else v)|some none=>(LA P et).map λz=>if ok then .DW [z,.sc (.bool false)] else z|none=>none
   |none=>none) else none
  |_,_=>none
 |_=>none
def ajB(w:World)(vx:Value)(fs:List MapEntry):Prop:=(vx=.map none/\fs=[])\/∃g cl,vx=.map (some g)/\w.heap[g]?=some (.map fs.toArray cl)
def Z4{P:Program}{w:World}{t kt et:TypeId}{kd:TypeDesc}{vx vk v:Value}{fs:List MapEntry}{j:Nat}(ok:Bool)(hu:P.underlying t=some (.map kt et))(hkd:P.underlying kt=some kd)(hp:plainKey kd=true)(hm:ajB w vx fs)(hf:beS kd vk fs 0=some (some (j,v))) :
   (bgL t vx vk ok).run P w=.ok (if ok then .tuple #[v,.bool true] else v) w:=by
 rcases hm with ⟨rfl,rfl⟩ | ⟨g,cl,rfl,hg⟩
 simp[beS] at hf;simp only[bgL,bbA,run_underlying hu,baZ,J0 hg,bcG,run_checkKey _ hkd hp,run_findKey hkd hf]
def Z3{P:Program}{w:World}{t kt et:TypeId}{kd:TypeDesc}{vx vk z:Value}{fs:List MapEntry}(ok:Bool)(hu:P.underlying t=some (.map kt et))(hkd:P.underlying kt=some kd)(hp:plainKey kd=true)(hm:ajB w vx fs)(hf:beS kd vk fs 0=some none)(hz:(zeroValue et).run P w=.ok z w) :
   (bgL t vx vk ok).run P w=.ok (if ok then .tuple #[z,.bool false] else z) w:=by
 rcases hm with ⟨rfl,rfl⟩ | ⟨g,cl,rfl,hg⟩
 simp only[bgL,bbA,run_underlying hu,baZ,bcG,run_checkKey _ hkd hp];rw[run_findKey hkd hf];simp only[bbA,hz,baZ,bcG];simp only[bgL,bbA,run_underlying hu,baZ,J0 hg,bcG,run_checkKey _ hkd hp,run_findKey hkd hf,hz]
def wP{P:Program}{G:AP}{c:Cx}{w:World}{s:AS}{t:TypeId}{x k r:AV}{ok:Bool}{vx vk:Value}(hs:St G c w s)(h:IR P s t x k ok=some r)(hx:Rp c w x vx)(hk:Rp c w k vk) :
   ∃u,(bgL t vx vk ok).run P w=.ok u w/\Rp c w r u:=by
 unfold IR at h;split at h
 ·rename_i kt et hu
  split at h
  ·rename_i kd key hkd amW
   have:=XH amW hk;subst this;split at h
   ·rename_i hp
    split at h
    ·rename_i es hes
     obtain⟨fs,hfs,hm⟩:∃fs,Mb c w es fs/\ajB w vx fs:=by
      split at hes;cases hes;cases hx;exact⟨[],.nil,.inl ⟨rfl,rfl⟩⟩
      ·split at hes
       ·rename_i es' cl hb
        cases hes;cases hx with
        |mp hid=>
         obtain⟨fs,hw,he⟩:=WD hs hid hb;exact⟨fs,he,.inr ⟨_,_,rfl,hw⟩⟩
       cases hes
      cases hes
     split at h;rename_i j v hf;cases h;rcases QW hfs hf with ⟨h1,_⟩ | ⟨j',a,v',e,f,h1,h2,h3,_⟩
     cases h1;injection h1 with h1
     injection h1 with _ h1
     subst h1;refine⟨_,Z4 ok hu hkd hp hm h2,?_⟩;cases ok;exact h3;exact .DW (vs:=[v',.bool true]) (.cons h3 (.cons (.sc rfl) .nil))
     ·rename_i hf
      cases hz:LA P et with
      |none=>rw[hz] at h;cases h
      |some z=>
       rw[hz] at h;cases h;rcases QW hfs hf with ⟨_,h2⟩ | ⟨j',a,v',e,f,h1,_⟩
       obtain⟨zv,hzr,hzp⟩:=WB hz c w w;refine⟨_,Z3 ok hu hkd hp hm h2 hzr,?_⟩;cases ok;exact hzp;exact .DW (vs:=[zv,.bool false]) (.cons hzp (.cons (.sc rfl) .nil));cases h1
     cases h
    cases h
   cases h
  cases h
 cases h
def KT(P:Program)(s:AS)(t:TypeId)(x k v:AV):Option AS :=
 match P.underlying t with
 |some (.map kt _)=>match P.underlying kt,Z7 k,x with
  |some kd,some key,.mp id=>if plainKey kd=true then
   (match s.get id with
   |some (.map es cl)=>match Wx kd key es 0 with
    |some (some (j,_))=>match es[j]? with|some e=>some (s.put id (.map (es.set j (key,v,e.2.2)) cl))|none=>none
    |some none=>some (s.put id (.map (es++[(key,v,cl)]) (cl+1)))
    |none=>none
   |_=>none) else none
  |_,_,_=>none
 |_=>none
def VL{fs:List MapEntry}{j:Nat}{f g:MapEntry}{F:MapEntry->MapEntry}(h:fs[j]?=some f)(hF:F f=g):fs.toArray.modify j F=(fs.set j g).toArray:=by apply bbW;rw[List.modify_toArray];apply beZ;intro i;rw[List.getElem?_modify,bkB];by_cases e:j=i;subst e;obtain⟨hl,he⟩:=aHS.1 h;simp[hl,he,hF];simp[e]
def bR{P:Program}{G:AP}{c:Cx}{w:World}{s s':AS}{t:TypeId}{x k v:AV}{vx vk vv:Value}(hs:St G c w s)(h:KT P s t x k v=some s')(hx:Rp c w x vx)(hk:Rp c w k vk)(hv:Rp c w v vv) :
   ∃w',(biR t vx vk vv).run P w=.ok () w'/\Ext c w c w'/\St G c w' s':=by
 unfold KT at h;split at h
 ·rename_i kt et hu
  split at h
  ·rename_i kd key id hkd amW
   have:=XH amW hk;subst this;split at h
   ·rename_i hp
    split at h
    ·rename_i es cl hb
     cases hx with
     |@mp _ g hid=>
      obtain⟨fs,hw,he⟩:=WD hs hid hb;split at h;rename_i j a hf;split at h;rename_i e hej;cases h;rcases QW he hf with ⟨h1,_⟩ | ⟨j',a',v',e',f,h1,h2,h3,h4,h5,h6,h7,h8,h9,h10⟩
      cases h1;injection h1 with h1
      injection h1 with h1 _
      rw[aUU] at h1;subst h1;rw[hej] at h4;cases h4;rw[aUU] at h2;have anK:fs.toArray.modify j (λe=>{ e with key:=vk,val:=vv })=(fs.set j ⟨vk,vv,e.2.2⟩).toArray:=VL h5 (by rw[<- h9])
      obtain⟨x1,st⟩:=hs.put (b:=.map (es.set j (vk,v,e.2.2)) cl) (o:=.map (fs.set j ⟨vk,vv,e.2.2⟩).toArray cl) hid (WJ w g _) (XE w hw) (.map (he.set hv j));refine⟨_,?_,x1,st⟩;have amQ:=fO h10;have hfk:=run_findKey (P:=P) hkd h2 w;simp only[biR,bbA,run_underlying hu,baZ,J0 hw,run_checkKey _ hkd hp,hfk,bdQ,h5,bbB,bfP,h8,bjR,amQ,if_true,bcG,anK];exact Pu _ hw;cases h;rename_i hf;cases h;rcases QW he hf with ⟨_,h2⟩ | ⟨j',a',v',e',f,h1,_⟩
      obtain⟨x1,st⟩:=hs.put (b:=.map (es++[(vk,v,cl)]) (cl+1)) (o:=.map (fs++[(⟨vk,vv,cl⟩:MapEntry)]).toArray (cl+1)) hid (WJ w g _) (XE w hw) (.map (he.snoc hv));refine⟨_,?_,x1,st⟩;have hfk:=run_findKey (P:=P) hkd h2 w;have anN:fs.toArray.push (⟨vk,vv,cl⟩:MapEntry)=(fs++[(⟨vk,vv,cl⟩:MapEntry)]).toArray:=by simp
      simp only[biR,bbA,run_underlying hu,baZ,J0 hw,run_checkKey _ hkd hp,hfk,anN];exact Pu _ hw;cases h1;cases h
    cases h
   cases h
  cases h
 cases h
def pX{P:Program}{G:AP}{c:Cx}{w:World}{s:AS}{t:TypeId}(hs:St G c w s) :
   ∃v' w' c',(blO t none).run P w=.ok v' w'/\Ext c w c' w'/\St G c' w' (s.new (.map [] 0))/\Rp c' w' (.mp s.nx) v':=by
 obtain⟨e,st⟩:=hs.new (b:=.map [] 0) (o:=.map #[] 0) (.map (fs:=[]) .nil);refine⟨.map (some w.heap.size),_,_,?_,e,st,.mp ?_⟩;simp[blO];simp[hs.len]
def Zx(P:Program)(s:AS)(t:TypeId)(a:AV):Option AV :=
 match P.underlying t,a with
 |some .string,.sc (.string x)=>some (.sc (.int .i64 x.data.toList.length))
 |some (.slice _),.sl _ n _=>some (.sc (.int .i64 n))
 |some (.slice _),.OG _ _ n=>some (.sc (.int .i64 n))
 |some (.map _ _),.sc (.map none)=>some (.sc (.int .i64 0))
 |some (.map _ _),.mp id=>match s.get id with|some (.map es _)=>some (.sc (.int .i64 es.length))|_=>none
 |_,_=>none
def auL{P:Program}{G:AP}{c:Cx}{w:World}{s:AS}{t ty:TypeId}{a r:AV}{v:Value}(hs:St G c w s)(h:Zx P s t a=some r)(ha:Rp c w a v):∃u,(bfQ #[t] ty #[v]).run P w=.ok u w/\Rp c w r u:=by
 unfold Zx at h;split at h;rename_i x hu;cases h;cases ha;exact⟨_,by simp[bfQ,run_underlying hu,goInt],.sc rfl⟩;rename_i hu;cases h;cases ha<;>exact⟨_,by simp[bfQ,run_underlying hu,goInt],.sc rfl⟩
 rename_i hu;cases h;cases ha;exact⟨_,by simp[bfQ,run_underlying hu,goInt],.sc rfl⟩;rename_i hu;cases h;cases ha;exact⟨_,by simp[bfQ,run_underlying hu,goInt],.sc rfl⟩
 ·rename_i hu
  split at h
  ·rename_i es cl hb
   cases h;cases ha with
   |mp hid=>
    obtain⟨fs,hw,he⟩:=WD hs hid hb;exact⟨_,by simp[bfQ,run_underlying hu,J0 hw,he.len,goInt],.sc rfl⟩
  cases h
 cases h
def JC(P:Program)(s:AS)(t:TypeId)(l c:AV):Option (AV×AS) :=
 match P.underlying t with
 |some (.slice elem)=>match P.info? elem,UH l,UH c with
  |some e,some n,some m=>match e.zero with
   |some z=>match P4 z.cells.toList with|some zs=>if n=m/\n<=16777216/\n*e.bytes<=281474976710656/\zs.isEmpty=false then some (.OG s.nx 0 n,s.new (.cells ((bcB (n*e.size)).map λi=>zs.getD (i % zs.length) (.sc undef)))) else none|none=>none
   |none=>none
  |_,_,_=>none
 |_=>none
end AI
namespace AI
open Go Go.RowKit
def iC{P:Program}{G:AP}{c:Cx}{w:World}{s s':AS}{t:TypeId}{l k r:AV}{vl vk:Value}(hs:St G c w s)(h:JC P s t l k=some (r,s'))(hl:Rp c w l vl)(hk:Rp c w k vk) :
   ∃u w' c',(bkQ t vl vk).run P w=.ok u w'/\Ext c w c' w'/\St G c' w' s'/\Rp c' w' r u:=by
 unfold JC at h;split at h;rename_i elem hu;split at h;rename_i e n m he hn hm;split at h;rename_i z hz;split at h;rename_i zs hzs;split at h;rename_i hc;cases h;obtain⟨rfl,h24,h48,hne⟩:=hc;obtain⟨k1,i1,rfl,h1,e1⟩:=N8 hn hl;obtain⟨k2,i2,rfl,h2,e2⟩:=N8 hm hk;have w1:beR.wrap i1=i1:=bgM _ (by omega);have w2:beR.wrap i2=i2:=bgM _ (by omega);have hzr:CF c w zs z.cells.toList:=R7 hzs c w;have hin:=vR hzr (n*e.size) (λ_ hn=>by rw[hn] at hne;cases hne);simp only[bcV] at hin
 have amM:(biY (n*e.size)).map (λi=>z.cells[i % z.cells.size]!)=((bcB (n*e.size)).map λi=>z.cells[i % z.cells.size]!).toArray:=by apply bbW;simp
 obtain⟨x,st⟩:=hs.new (b:=.cells ((bcB (n*e.size)).map λi=>zs.getD (i % zs.length) (.sc undef))) (o:=.cells ((bcB (n*e.size)).map λi=>z.cells[i % z.cells.size]!).toArray elem (0,0)) (.cells hin);refine⟨.slice (some ⟨w.heap.size,0,none⟩) n n,_,_,?_,x,st,.OG (aHT _) (by simp[hs.len])⟩
 have hb:¬281474976710656 < (e.bytes:Int)*i2:=by
  have e3:(e.bytes:Int)*i2=((n*e.bytes:Nat):Int):=by rw[show i2=(n:Int) from by omega,Int.natCast_mul,Int.mul_comm]
  rw[e3];generalize n*e.bytes=q at h48;omega
 have hn2:¬i2 < 0:=by omega
 have hn1:¬i1 < 0:=by omega
 have hle:¬i2 < i1:=by omega
 simp only[bkQ,bbA,run_underlying hu,baZ,asInt,asIntOf,bcG,typeInfo,run_program,he,w1,w2,hn1,hn2,gt_iff_lt,show(2:Int) ^ 48=281474976710656 from rfl,hb,decide_false,Bool.or_false,hle,bbC,if_false,run_askRoom,e2,CL he,newRow,e1];split;rename_i h0;have hz0:biY 0=#[]:=rfl;simp[h0,hz0];simp only[bbA,zeroValue,typeInfo,run_program,baZ,he,hz,bcG,run_newObj,amM];cases h;cases h;cases h;cases h;cases h
def QX(P:Program)(s:AS)(t:TypeId)(x k:AV):Option (AV×AS) :=
 match P.underlying t with
 |some (.map kt et)=>match P.underlying kt,Z7 k,x with
  |some kd,some key,.mp id=>if plainKey kd=true then
   (match s.get id with
   |some (.map es cl)=>match Wx kd key es 0 with
    |some (some (j,v))=>match es[j]? with|some e=>some (.DW [v,.sc (.int .i64 e.2.2)],(s.put id (.map (es.set j (key,v,e.2.2)) cl)))|none=>none
    |some none=>match LA P et with|some z=>some (.DW [z,.sc (.int .i64 cl)],(s.put id (.map (es++[(key,z,cl)]) (cl+1))))|none=>none
    |none=>none
   |_=>none) else none
  |_,_,_=>none
 |_=>none
def mI{P:Program}{G:AP}{c:Cx}{w:World}{s s':AS}{t:TypeId}{x k r:AV}{vx vk:Value}(hs:St G c w s)(h:QX P s t x k=some (r,s'))(hx:Rp c w x vx)(hk:Rp c w k vk) :
   ∃u w',(biZ t vx vk).run P w=.ok u w'/\Ext c w c w'/\St G c w' s'/\Rp c w' r u:=by
 unfold QX at h;split at h
 ·rename_i kt et hu
  split at h
  ·rename_i kd key id hkd amW
   have:=XH amW hk;subst this;split at h
   ·rename_i hp
    split at h
    ·rename_i es cl hb
     cases hx with
     |@mp _ g hid=>
      obtain⟨fs,hw,he⟩:=WD hs hid hb;split at h;rename_i j v hf;split at h;rename_i e hej;cases h;rcases QW he hf with ⟨h1,_⟩ | ⟨j',a',v',e',f,h1,h2,h3,h4,h5,h6,h7,h8,h9,h10⟩
      cases h1;injection h1 with h1
      injection h1 with h1 h1'
      rw[aUU] at h1;subst h1 h1';rw[hej] at h4;cases h4;rw[aUU] at h2;have anK:fs.toArray.modify j (λe=>{ e with key:=vk })=(fs.set j ⟨vk,v',e.2.2⟩).toArray:=VL h5 (by rw[<- h9,<- h7])
      obtain⟨x1,st⟩:=hs.put (b:=.map (es.set j (vk,v,e.2.2)) cl) (o:=.map (fs.set j ⟨vk,v',e.2.2⟩).toArray cl) hid (WJ w g _) (XE w hw) (.map (he.set h3 j));refine⟨.tuple #[v',.int .i64 e.2.2],_,?_,x1,st,.DW (vs:=[v',.int .i64 e.2.2]) (.cons (h3.mono x1) (.cons (.sc rfl) .nil))⟩;have amQ:=fO h10;have hfk:=run_findKey (P:=P) hkd h2 w;simp only[biZ,bbA,run_underlying hu,baZ,J0 hw,run_checkKey _ hkd hp,hfk,bdQ,h5,bbB,bfP,h8,h9,bjR,amQ,if_true,bcG,anK,Pu _ hw,goInt];cases h;rename_i hf;split at h;rename_i z hz;cases h;rcases QW he hf with ⟨_,h2⟩ | ⟨j',a',v',e',f,h1,_⟩
      obtain⟨zv,hzr,hzp⟩:=WB hz c w w;obtain⟨x1,st⟩:=hs.put (b:=.map (es++[(vk,z,cl)]) (cl+1)) (o:=.map (fs++[(⟨vk,zv,cl⟩:MapEntry)]).toArray (cl+1)) hid (WJ w g _) (XE w hw) (.map (he.snoc hzp));refine⟨.tuple #[zv,.int .i64 cl],_,?_,x1,st,.DW (vs:=[zv,.int .i64 cl]) (.cons (hzp.mono x1) (.cons (.sc rfl) .nil))⟩;have hfk:=run_findKey (P:=P) hkd h2 w;have anN:fs.toArray.push (⟨vk,zv,cl⟩:MapEntry)=(fs++[(⟨vk,zv,cl⟩:MapEntry)]).toArray:=by simp
      simp only[biZ,bbA,run_underlying hu,baZ,J0 hw,run_checkKey _ hkd hp,hfk,hzr,anN,Pu _ hw,bcG,goInt];cases h1;cases h;cases h
    cases h
   cases h
  cases h
 cases h
def pR(b:Int):List (Value×AV×Nat)->Nat->Option Nat
 |[],_=>none
 |e::es,i=>if (e.2.2:Int) == b then some i else pR b es (i+1)
def ajI{c:Cx}{w:World}{b:Int}{es:List (Value×AV×Nat)}{fs:List MapEntry}(h:Mb c w es fs):fs.findIdx? (λe=>(e.born:Int) == b)=pR b es 0:=by
 have key:∀(es:List (Value×AV×Nat)) (fs:List MapEntry) (i:Nat),Mb c w es fs->pR b es i=(fs.findIdx? (λe=>(e.born:Int) == b)).map (·+i):=by
  intro es fs i h
  induction h generalizing i with
  |nil=>rfl
  |cons _ _ ih=>
   simp only[pR,List.findIdx?_cons];split;simp;rw[ih,Option.map_map];congr 1;funext x;simp;omega
 rw[key es fs 0 h];simp
def MZ(s:AS)(x st v:AV):Option AS :=
 match x,st with
 |.mp id,.sc (.int _ b)=>match s.get id with
  |some (.map es cl)=>match pR b es 0 with
   |some j=>match es[j]? with|some e=>some (s.put id (.map (es.set j (e.1,v,e.2.2)) cl))|none=>none
   |none=>none
  |_=>none
 |_,_=>none
def Mb.get{c:Cx}{w:World}{es:List (Value×AV×Nat)}{fs:List MapEntry}(h:Mb c w es fs){j:Nat}{e:Value×AV×Nat}(he:es[j]?=some e):∃f,fs[j]?=some f/\f.key=e.1/\f.born=e.2.2:=by
 induction h generalizing j with
 |nil=>simp at he
 |cons h1 _ ih=>
  cases j with|zero=>simp at he;subst he;exact⟨_,rfl,rfl,rfl⟩|succ j=>simpa using ih (by simpa using he)
def bO{P:Program}{G:AP}{c:Cx}{w:World}{s s':AS}{t:TypeId}{x st v:AV}{vx vs vv:Value}(hs:St G c w s)(h:MZ s x st v=some s')(hx:Rp c w x vx)(E5:Rp c w st vs)(hv:Rp c w v vv) :
   ∃w',(bkJ t vx vs vv).run P w=.ok () w'/\Ext c w c w'/\St G c w' s':=by
 unfold MZ at h;split at h
 ·rename_i id k b
  split at h
  ·rename_i es cl hb
   split at h
   ·rename_i j hj
    split at h
    ·rename_i e hej
     cases h;cases E5;cases hx with
     |@mp _ g hid=>
      obtain⟨fs,hw,he⟩:=WD hs hid hb;obtain⟨f,hf,hfk,hfb⟩:=he.get hej;have anK:fs.toArray.modify j (λe=>{ e with val:=vv })=(fs.set j ⟨e.1,vv,e.2.2⟩).toArray:=VL hf (by rw[<- hfk,<- hfb])
      obtain⟨x1,st⟩:=hs.put (b:=.map (es.set j (e.1,v,e.2.2)) cl) (o:=.map (fs.set j ⟨e.1,vv,e.2.2⟩).toArray cl) hid (WJ w g _) (XE w hw) (.map (he.set hv j));refine⟨_,?_,x1,st⟩
      have hfi:fs.toArray.findIdx? (λe=>(e.born:Int) == b)=some j:=by rw[List.findIdx?_toArray,ajI he,hj]
      simp only[bkJ,bbA,baZ,J0 hw,asInt,asIntOf,bcG,hfi,anK];exact Pu _ hw
    cases h
   cases h
  cases h
 cases h
end AI
namespace AI
open Go Go.RowKit
def byteOf:AV->Option UInt8
 |.sc (.int .u8 n)=>some (bgG n.toNat)
 |_=>none
def bytesOf:List AV->Option (List UInt8)
 |[]=>some []
 |a::l=>match byteOf a,bytesOf l with|some b,some m=>some (b::m)|_,_=>none
def Te(P:Program)(src dst:TypeId):AV->Option AV
 |.sc v=>YV P (convert src dst v)
 |.sl _ n cs=>match P.underlying src,P.underlying dst with
  |some (.slice e),some .string=>(match P.underlying e with|some (.int .u8)=>if n=cs.length then (bytesOf cs).map λl=>.sc (.string ⟨l.toArray⟩) else none|_=>none)
  |_,_=>none
 |_=>none
def afQ{c:Cx}{w:World}{a:AV}{b:UInt8}{v:Value}(h:byteOf a=some b)(hr:Rp c w a v):∃n,v=.int .u8 n/\bgG n.toNat=b:=by unfold byteOf at h;split at h;cases h;cases hr;exact⟨_,rfl,rfl⟩;cases h
def adF(s:ByteArray)(l:List UInt8):ByteArray:=l.foldl bkZ s
def tI:∀(l:List UInt8)(s:ByteArray),adF s l=⟨s.data++l.toArray⟩
 |[],s=>by simp[adF]
 |b::l,s=>by
  have:=tI l (s.push b);unfold adF at this ⊢;rw[bkP,this];simp[bkZ]
def cA{P:Program}{c:Cx}{w w0:World}:∀{cs:List AV}{vs:List Value}{l:List UInt8}(s:ByteArray),CF c w cs vs->bytesOf cs=some l ->
 (forIn vs s λ(x:Value)(s:ByteArray)=>(match x with
  |.int .u8 n=>(pure (bkR (s.push (bgG n.toNat))):Sem (ForInStep ByteArray))
  | _=>((λ_=>bkR s) <$> (stuck "bytesToString: byte expected":Sem PUnit):Sem (ForInStep ByteArray)))).run P w0=.ok (adF s l) w0
 |[],_,_,s,h,hb=>by cases h;cases hb;rfl
 |a::cs,_,l,s,h,hb=>by
  cases h with
  |cons h1 t=>
   simp only[bytesOf] at hb;split at hb;rename_i b m h2 h3;cases hb;obtain⟨n,rfl,rfl⟩:=afQ h2 h1;have:=cA (P:=P) (w0:=w0) (s.push (bgG n.toNat)) t h3;simp only[List.forIn_cons,bbA,bcG,baZ];exact this;cases hb
def ajL{P:Program}{c:Cx}{w:World}{src dst:TypeId}{a r:AV}{v:Value}(h:Te P src dst a=some r)(hr:Rp c w a v):∃u,(convert src dst v).run P w=.ok u w/\Rp c w r u:=by
 unfold Te at h;split at h;cases hr;obtain⟨z,h1,h2⟩:=Wz h c w w;exact⟨z,h1,h2⟩
 ·rename_i own n cs
  split at h
  ·rename_i e hs hd
   split at h
   ·rename_i he
    split at h
    ·rename_i hn
     obtain⟨l,hb,rfl⟩:=beP.1 h;refine⟨.string ⟨l.toArray⟩,?_,.sc rfl⟩;unfold convert;cases hr with
     |@sl0 _ A cap h0=>
      cases hb;cases A<;>simp[bbA,run_underlying hs,run_underlying hd,run_underlying he,bjS,loadCells,loadCellsFrom]<;>rfl
     |@MT _ _ cap g o _ hn' hc ho=>
      obtain⟨vs,hvs,Mf⟩:=hc.vals;have hlen:=hvs.len;have hld:=run_loadCells_list (P:=P) w ⟨g,o,none⟩ vs (λj v hj=>by rw[add_lit];exact(Mf j v hj).2.2);rw[hlen,<- hn] at hld;have hlp:=cA (P:=P) (w0:=w) VE hvs hb;rw[tI] at hlp;simp[bbA,run_underlying hs,run_underlying hd,run_underlying he,bjS,hld];refine(congrArg (λr=>r.andThen λ(a:ByteArray) w'=>Result.ok (Value.string a) w') hlp).trans ?_;simp[VE,ByteArray.emptyWithCapacity];rfl
    cases h
   cases h
  cases h
 cases h
end AI
namespace AI
open Go Go.RowKit
def A3(G:AP)(fr:List AV):Operand->Option AV
 |.tmp t=>some (fr.getD t (.sc undef))
 |.const v=>Zl v
 |.global g=>(G g).map .el
 |.func f=>some (.fn (.func f) [] [])
def GA{G:AP}{c:Cx}{w:World}{s:AS}{fr:List AV}{a:Act}{x:Operand}{v:AV}(hs:St G c w s)(hf:CF c w fr a.tmps.toList)(h:A3 G fr x=some v):Rp c w v (a.eval x):=by
 cases x with
 |tmp t=>
  simp only[A3,aUQ] at h;subst h;simp only[Act.eval];rw[bcR];cases hg:fr[t]? with
  |some b=>
   obtain⟨u,hu,hr⟩:=hf.get hg;rw[bbE] at hu;simp[hu,hr]
  |none=>
   have hl:=hf.len;have h1:=bfT.1 hg;have h2:a.tmps[t]?=none:=beQ (by rw[<- bbN];omega);simp only[bcL,h2,Option.getD_none];exact .sc rfl
 |const v=>exact sS h c w
 |global g=>
  simp only[A3] at h;cases hg:G g with|none=>rw[hg] at h;cases h|some cs=>rw[hg] at h;cases h;exact .el (hs.Mr g cs hg)
 |func f=>simp only[A3,aUQ] at h;subst h;exact .fn (us:=[]) (vs:=[]) .nil .nil
def iH(G:AP)(fr:List AV):List Operand->Option (List AV)
 |[]=>some []
 |x::xs=>match A3 G fr x,iH G fr xs with|some a,some as=>some (a::as)|_,_=>none
abbrev iB(G:AP)(c:Cx)(w:World)(fr:List AV)(ρ:Operand->Value)(x:Operand):Prop:=∀v,A3 G fr x=some v->Rp c w v (ρ x)
def cO{G:AP}{c:Cx}{w:World}{fr:List AV}{ρ:Operand->Value}{xs:List Operand}{vs:List AV}(Je:∀x∈xs,iB G c w fr ρ x)(h:iH G fr xs=some vs):CF c w vs (xs.map ρ):=by
 induction xs generalizing vs with
 |nil=>simp[iH] at h;subst h;exact .nil
 |cons x xs ih=>
  simp only[iH] at h;split at h;rename_i b bs h1 h2;cases h;exact .cons (Je x bbU b h1) (ih (λy hy=>Je y (bbP _ hy)) h2);cases h
def MG(G:AP)(fr:List AV):List (Nat×Operand)->Option (List (Nat×AV))
 |[]=>some []
 |x::xs=>match A3 G fr x.2,MG G fr xs with|some a,some as=>some ((x.1,a)::as)|_,_=>none
def cM{G:AP}{c:Cx}{w:World}{fr:List AV}{ρ:Operand->Value}{xs:List (Nat×Operand)}{vs:List (Nat×AV)}(Je:∀x∈xs,iB G c w fr ρ x.2)(h:MG G fr xs=some vs):PL c w vs (xs.map λx=>(x.1,ρ x.2)):=by
 induction xs generalizing vs with
 |nil=>simp[MG] at h;subst h;exact .nil
 |cons x xs ih=>
  simp only[MG] at h;split at h;rename_i b bs h1 h2;cases h;exact .cons (Je x bbU b h1) (ih (λy hy=>Je y (bbP _ hy)) h2);cases h
def pK(G:AP)(fr:List AV):Option Operand->Option (Option AV)
 |none=>some none
 |some x=>(A3 G fr x).map some
def xH{G:AP}{c:Cx}{w:World}{fr:List AV}{ρ:Operand->Value}{x:Option Operand}{v:Option AV}(Je:∀y∈x.toArray,iB G c w fr ρ y)(h:pK G fr x=some v):RO c w v (x.map ρ):=by
 cases x with
 |none=>simp[pK] at h;subst h;exact .none
 |some x=>
  simp only[pK] at h;cases hx:A3 G fr x with|none=>rw[hx] at h;cases h|some b=>rw[hx] at h;cases h;exact .some (Je x (by simp) b hx)
inductive AR where
 |val (v:AV) (s:AS)
 |ent (f:FuncId) (args:List AV)
 |pan (v:AV)
def M1(P:Program)(g:FuncId):Bool:=match P.funcs[g]? with
 | some fn=>fn.name != "runtime.NumGoroutine"&&fn.body.isSome
 |none=>false
def notNil:AV->Bool
 |.ptr _ _ | .el _=>true
 |.fn (.func _) _ _=>true
 |_=>false
def isIface:TypeDesc->Bool
 |.interface _=>true
 |_=>false
def U9(P:Program)(G:AP)(fr:List AV)(s:AS)(o:Oper)(cl:Call):Option AR :=
 match cl.callee with
 |.builtin .len=>match cl.args.toList,cl.argTypes.toList with|[x],[t]=>((A3 G fr x).bind (Zx P s t)).map λv=>.val v s|_,_=>none
 |.builtin .append=>match cl.args.toList,cl.argTypes.toList with
  |[x,y],[t,tx]=>match A3 G fr x,A3 G fr y with|some a,some b=>(Lx P s t tx a b).map λr=>.val r.1 r.2|_,_=>none
  |_,_=>none
 |.builtin .max=>((iH G fr cl.args.toList).bind Qd).bind λvs=>(YV P (blV cl.argTypes o.type vs.toArray)).map λv=>.val v s
 |.builtin .min=>((iH G fr cl.args.toList).bind Qd).bind λvs=>(YV P (blW cl.argTypes o.type vs.toArray)).map λv=>.val v s
 |.value f=>match A3 G fr f,iH G fr cl.args.toList with|some (.fn (.func g) first caps),some as=>if M1 P g=true then some (.ent g (first++as++caps)) else none|_,_=>none
 |_=>none
def RJ(P:Program)(G:AP)(fr:List AV)(s:AS)(o:Oper):Option AR :=
 match o.op with
 |.move x=>(A3 G fr x).map λv=>.val v s
 |.assign x=>(A3 G fr x).map λv=>.val v s
 |.pick c a b=>match A3 G fr c with|some (.sc (.bool t))=>(if t then A3 G fr a else A3 G fr b).map λv=>.val v s|_=>none
 |.alloc e=>(LA P e).map λz=>.val (.ptr s.nx 0) (s.new (.cells (cellsOf z)))
 |.box t x=>(A3 G fr x).bind λz=>match SJ z with|true=>none|false=>some (.val (.ptr s.nx 0) (s.new (ajY t s.nx z)))
 |.build t ps=>((MG G fr ps.toList).bind (bM P t)).map λv=>.val v s
 |.buildSlice t n ps=>((MG G fr ps.toList).bind (MY P t n)).map λv=>.val v s
 |.load t a=>((A3 G fr a).bind (Lf P s t)).map λv=>.val v s
 |.store t a x=>match A3 G fr a,A3 G fr x with|some a,some x=>(Mn P s t a x).map λs'=>.val (.sc undef) s'|_,_=>none
 |.nilCheck x=>match A3 G fr x with|some v=>if notNil v=true then some (.val v s) else none|none=>none
 |.binOp op t x y _=>match A3 G fr x,A3 G fr y with|some a,some b=>(Md P op t x y a b).map λv=>.val v s|_,_=>none
 |.unOp op _ x=>((A3 G fr x).bind Z7).bind λv=>(YV P (bmA op v)).map λv=>.val v s
 |.convert src dst x=>((A3 G fr x).bind λa=>Te P src dst a).map λv=>.val v s
 |.makeInterface t x=>match A3 G fr x,P.underlying t with|some v,some d=>if isIface d=true then none else some (.val (.ifc t v) s)|_,_=>none
 |.makeFunc f first caps=>match iH G fr first.toList,iH G fr caps.toList with|some a,some b=>some (.val (.fn f a b) s)|_,_=>none
 |.makeMap _ none=>some (.val (.mp s.nx) (s.new (.map [] 0)))
 |.makeSlice t l c=>match A3 G fr l,A3 G fr c with|some a,some b=>(JC P s t a b).map λr=>.val r.1 r.2|_,_=>none
 |.slice t x lo hi mx=>match A3 G fr x,pK G fr lo,pK G fr hi,pK G fr mx with|some a,some l,some h,some m=>(Ml P t a l h m).map λv=>.val v s|_,_,_,_=>none
 |.fieldAddr t x k=>((A3 G fr x).bind λa=>Th P t a k).map λv=>.val v s
 |.field t x k=>((A3 G fr x).bind λa=>bP P t a k).map λv=>.val v s
 |.indexAddr t x i=>match A3 G fr x,A3 G fr i with|some a,some b=>(Df P t a b).map λv=>.val v s|_,_=>none
 |.index t x i=>match A3 G fr x,A3 G fr i with|some a,some b=>(Ly P t a b).map λv=>.val v s|_,_=>none
 |.lookup t x k ok=>match A3 G fr x,A3 G fr k with|some a,some b=>(IR P s t a b ok).map λv=>.val v s|_,_=>none
 |.mapUpdate t m k x=>match A3 G fr m,A3 G fr k,A3 G fr x with|some a,some b,some v=>(KT P s t a b v).map λs'=>.val (.sc undef) s'|_,_,_=>none
 |.insert t m k x=>match A3 G fr m,A3 G fr k,A3 G fr x with|some a,some b,some v=>(KT P s t a b v).map λs'=>.val (.sc undef) s'|_,_,_=>none
 |.mapEntry t m k=>match A3 G fr m,A3 G fr k with|some a,some b=>(QX P s t a b).map λr=>.val r.1 r.2|_,_=>none
 |.entryStore _ m st x=>match A3 G fr m,A3 G fr st,A3 G fr x with|some a,some b,some v=>(MZ s a b v).map λs'=>.val (.sc undef) s'|_,_,_=>none
 |.extract x k=>((A3 G fr x).bind λa=>Tf a k).map λv=>.val v s
 |.call cl=>U9 P G fr s o cl
 |.panic x=>match A3 G fr x with|some (.ifc t v)=>some (.pan (.ifc t v))|_=>none
 |_=>none
def bJ(_P:Program)(G:AP)(c:Cx)(w:World)(r:Result Next):AR->Prop
 |.val v s'=>∃u w' c',(r=.ok (.value u) w'\/(r=.ok .skip w'/\u=undef))/\Ext c w c' w'/\St G c' w' s'/\Rp c' w' v u
 |.ent f args=>∃vs,r=.ok (.enter f vs.toArray) w/\CF c w args vs
 |.pan v=>∃u,r=.halt (.panic u) w/\Rp c w v u
def Es{P:Program}{G:AP}{c:Cx}{w:World}{s:AS}{v:AV}{m:Sem Value}(hs:St G c w s)(h:∃u,m.run P w=.ok u w/\Rp c w v u):bJ P G c w ((do pure (Next.value (<- m)):Sem Next).run P w) (.val v s):=by obtain⟨u,h1,h2⟩:=h;exact⟨u,w,c,.inl (by simp[h1]),Ext.refl c w,hs,h2⟩
def OS{P:Program}{G:AP}{c:Cx}{w:World}{s':AS}{v:AV}{m:Sem Value}(h:∃u w' c',m.run P w=.ok u w'/\Ext c w c' w'/\St G c' w' s'/\Rp c' w' v u):bJ P G c w ((do pure (Next.value (<- m)):Sem Next).run P w) (.val v s'):=by obtain⟨u,w',c',h1,h2⟩:=h;exact⟨u,w',c',.inl (by simp[h1]),h2⟩
def Uq{P:Program}{G:AP}{c:Cx}{w:World}{s':AS}{m:Sem Unit}(h:∃w',m.run P w=.ok () w'/\Ext c w c w'/\St G c w' s'):bJ P G c w ((do m;pure Next.skip:Sem Next).run P w) (.val (.sc undef) s'):=by obtain⟨w',h1,h2,h3⟩:=h;exact⟨undef,w',c,.inr ⟨by simp[h1],rfl⟩,h2,h3,.sc rfl⟩
def map_some{α β:Type}{o:Option α}{f:α->β}{b:β}(h:o.map f=some b):∃a,o=some a/\f a=b:=by cases o with|none=>cases h|some a=>exact⟨a,rfl,by simpa using h⟩
def bind_some{α β:Type}{o:Option α}{f:α->Option β}{b:β}(h:o.bind f=some b):∃a,o=some a/\f a=some b:=by cases o with|none=>cases h|some a=>exact⟨a,rfl,by simpa using h⟩
end AI
namespace AI
open Go Go.RowKit
def Tr{P:Program}{g:FuncId}(h:M1 P g=true)(args:Array Value)(w:World):(callFunc g args).run P w=.ok (.enter g args) w:=by unfold M1 at h;split at h;rename_i fn hf;simp only[aUR,bne_iff_ne,ne_eq] at h;obtain⟨b,hb⟩:=bfV.1 h.2;simp[callFunc,hf,h.1,hb];cases h
def ajK{P:Program}{G:AP}{c:Cx}{w:World}{s:AS}{fr:List AV}{ρ:Operand->Value}{o:Oper}{cl:Call}{r:AR}(hs:St G c w s)(Je:∀x∈cl.operands,iB G c w fr ρ x)(h:U9 P G fr s o cl=some r) :
   bJ P G c w ((do let d <- resolve ρ cl o.type;invoke d.target d.args:Sem Next).run P w) r:=by
 have H5:∀x∈cl.args.toList,iB G c w fr ρ x:=λx hx=>Je x (by simp only[bjL,beT];exact .inr (bdU.1 hx));unfold U9 at h;split at h;rename_i Ib;split at h;rename_i x t hx ht;obtain⟨v,h1,rfl⟩:=map_some h;obtain⟨b,h2,h3⟩:=bind_some h1;have e1:cl.args=#[x]:=by apply bbW;rw[hx]
 have e2:cl.argTypes=#[t]:=by apply bbW;rw[ht]
 have:=Es hs (auL (ty:=o.type) hs h3 (H5 x (by rw[hx];simp) _ h2));simpa[resolve,Ib,e1,e2,invoke,builtin] using this
 cases h;rename_i Ib;split at h;rename_i x y t tx hx ht;split at h;rename_i b d h2 h3;obtain⟨v,h1,rfl⟩:=map_some h;have e1:cl.args=#[x,y]:=by apply bbW;rw[hx]
 have e2:cl.argTypes=#[t,tx]:=by apply bbW;rw[ht]
 have:=OS (wM (ty:=o.type) hs h1 (H5 x (by rw[hx];simp) _ h2) (H5 y (by rw[hx];simp) _ h3));simpa[resolve,Ib,e1,e2,invoke,builtin] using this
 cases h;cases h;rename_i Ib;obtain⟨vs,h1,h2⟩:=bind_some h;obtain⟨v,h3,rfl⟩:=map_some h2;obtain⟨as,h4,h5⟩:=bind_some h1;have e:=fX h5 (cO H5 h4);have e1:cl.args.map ρ=vs.toArray:=by apply bbW;rw[<- e];simp
 have:=Es hs (Wz h3 c w w);simpa[resolve,Ib,e1,invoke,builtin] using this
 rename_i Ib;obtain⟨vs,h1,h2⟩:=bind_some h;obtain⟨v,h3,rfl⟩:=map_some h2;obtain⟨as,h4,h5⟩:=bind_some h1;have e:=fX h5 (cO H5 h4);have e1:cl.args.map ρ=vs.toArray:=by apply bbW;rw[<- e];simp
 have:=Es hs (Wz h3 c w w);simpa[resolve,Ib,e1,invoke,builtin] using this
 ·rename_i f Ib
  split at h
  ·rename_i g first caps as h1 h2
   split at h
   ·rename_i hc
    cases h;have hr:=Je f (by simp[bjL,Ib]) _ h1;have H5:=cO H5 h2;generalize hv:ρ f=v at hr;cases hr with
    |@fn _ _ _ us vs q1 q2=>
     refine⟨us++cl.args.toList.map ρ++vs,?_,(q1.append H5).append q2⟩
     have e3:(us++cl.args.toList.map ρ++vs).toArray=us.toArray++Array.map ρ cl.args++vs.toArray:=by apply bbW;simp
     rw[e3];simp only[resolve,Ib,hv,bbA,Deferred.ofValue,bcG,baZ,invoke,Tr hc]
   cases h
  cases h
 cases h
def mL{P:Program}{G:AP}{c:Cx}{w:World}{s:AS}{fr:List AV}{ρ:Operand->Value}{o:Oper}{r:AR}(hs:St G c w s)(Je:∀x∈o.op.operands,iB G c w fr ρ x)(hρ:∀k,ρ (.const k)=k)(h:RJ P G fr s o=some r) :
   bJ P G c w ((execOp ρ o).run P w) r:=by
 unfold RJ at h;split at h;rename_i x ho;obtain⟨v,h1,rfl⟩:=map_some h;simp only[execOp,ho];exact⟨_,w,c,.inl rfl,Ext.refl c w,hs,Je x (by rw[ho];simp[bbF]) v h1⟩;rename_i x ho;obtain⟨v,h1,rfl⟩:=map_some h;simp only[execOp,ho];exact⟨_,w,c,.inl rfl,Ext.refl c w,hs,Je x (by rw[ho];simp[bbF]) v h1⟩;rename_i x y z ho;split at h;rename_i t hc;obtain⟨v,h1,rfl⟩:=map_some h;have hb:=Je x (by rw[ho];simp[bbF]) _ hc;generalize hv:ρ x=vx at hb;cases hb;simp only[execOp,ho,hv];refine⟨if t then ρ y else ρ z,w,c,.inl (by simp[asBool]),Ext.refl c w,hs,?_⟩
 cases t;exact Je z (by rw[ho];simp[bbF]) v h1;exact Je y (by rw[ho];simp[bbF]) v h1;cases h;rename_i e ho;obtain⟨z,h1,rfl⟩:=map_some h;obtain⟨zv,hzr,hzp⟩:=WB h1 c w w;obtain⟨v',w',c',h2,h3⟩:=auJ (P:=P) (t:=e) hs hzp (jS h1);simp only[execOp,ho];refine OS ⟨v',w',c',?_,h3⟩;simp only[bgT,bbA] at h2;simp only[Instr.alloc,bbA,hzr,baZ];exact h2;rename_i e x ho;obtain⟨z,h1,h⟩:=bind_some h;split at h;cases h;rename_i hz;cases h;simp only[execOp,ho];exact OS (ajJ (P:=P) (t:=e) hs (Je x (by rw[ho];simp[bbF]) z h1) hz);rename_i t ps ho;obtain⟨v,h1,rfl⟩:=map_some h;obtain⟨qs,h2,h3⟩:=bind_some h1;simp only[execOp,ho];refine Es hs (afE (qs:=ps.map λx=>(x.1,ρ x.2)) h3 (by simpa using cM (ρ:=ρ) (λx hx=>Je x.2 (by rw[ho];simp only[bbF,biG,bfI];exact⟨x,hx,rfl⟩)) h2) w)
 rename_i t n ps ho;obtain⟨v,h1,rfl⟩:=map_some h;obtain⟨qs,h2,h3⟩:=bind_some h1;simp only[execOp,ho];obtain⟨u,w',q1,q2⟩:=bN (qs:=ps.map λx=>(x.1,ρ x.2)) hs h3 (by simpa using cM (ρ:=ρ) (λx hx=>Je x.2 (by rw[ho];simp only[bbF,biG,bfI];exact⟨x,hx,rfl⟩)) h2)
 exact OS ⟨u,w',c,q1,q2⟩;rename_i t x ho;obtain⟨v,h1,rfl⟩:=map_some h;obtain⟨b,h2,h3⟩:=bind_some h1;simp only[execOp,ho];exact Es hs (pW hs h3 (Je x (by rw[ho];simp[bbF]) b h2));rename_i t x y ho;split at h;rename_i b d h2 h3;obtain⟨s',h1,rfl⟩:=map_some h;simp only[execOp,ho];exact Uq (afL hs h1 (Je x (by rw[ho];simp[bbF]) b h2) (Je y (by rw[ho];simp[bbF]) d h3));cases h
 ·rename_i x ho
  split at h
  ·rename_i v h1
   split at h
   ·rename_i hn
    cases h;have hr:=Je x (by rw[ho];simp[bbF]) v h1;simp only[execOp,ho];generalize ρ x=vx at hr;cases hr with
    |ptr q=>exact⟨_,w,c,.inl rfl,Ext.refl c w,hs,.ptr q⟩
    |el q=>exact⟨_,w,c,.inl rfl,Ext.refl c w,hs,.el q⟩
    |@fn f _ _ us vs q1 q2=>
     cases f with|func g=>exact⟨_,w,c,.inl rfl,Ext.refl c w,hs,.fn q1 q2⟩|_=>simp[notNil] at hn
    |_=>simp[notNil] at hn
   cases h
  cases h
 rename_i op t x y yt ho;split at h;rename_i b d h2 h3;obtain⟨v,h1,rfl⟩:=map_some h;simp only[execOp,ho];exact Es hs (auI h1 (Je x (by rw[ho];simp[bbF]) b h2) (Je y (by rw[ho];simp[bbF]) d h3) (λk hk=>by rw[hk];exact hρ k) w);cases h;rename_i op t x ho;obtain⟨v,h1,h2⟩:=bind_some h;obtain⟨b,h3,h4⟩:=bind_some h1;obtain⟨q,h5,rfl⟩:=map_some h2;have e:=XH h4 (Je x (by rw[ho];simp[bbF]) b h3);simp only[execOp,ho,e];exact Es hs (Wz h5 c w w);rename_i src dst x ho;obtain⟨q,h1,rfl⟩:=map_some h;obtain⟨b,h3,h4⟩:=bind_some h1;simp only[execOp,ho];exact Es hs (ajL h4 (Je x (by rw[ho];simp[bbF]) b h3))
 ·rename_i t x ho
  split at h
  ·rename_i v d h1 hd
   split at h;cases h
   ·rename_i hi
    cases h;simp only[execOp,ho];refine Es hs ⟨.iface t (ρ x),?_,.ifc (Je x (by rw[ho];simp[bbF]) v h1)⟩;unfold Instr.makeInterface;rw[bbA,run_underlying hd];cases d<;>first | rfl | (simp[isIface] at hi;done)
  cases h
 rename_i f first caps ho
 split at h;rename_i b d h2 h3;cases h;simp only[execOp,ho];refine Es hs ⟨.func f (first.map ρ) (caps.map ρ),rfl,?_⟩
 have:=Rp.fn (f:=f) (cO (ρ:=ρ) (λx hx=>Je x (by rw[ho];simp only[bbF,beT];exact .inl (bdU.1 hx))) h2) (cO (ρ:=ρ) (λx hx=>Je x (by rw[ho];simp only[bbF,beT];exact .inr (bdU.1 hx))) h3);rwa[show(first.toList.map ρ).toArray=first.map ρ from by apply bbW;simp,show(caps.toList.map ρ).toArray=caps.map ρ from by apply bbW;simp] at this
 cases h;rename_i t ho;cases h;simp only[execOp,ho];exact OS (pX (P:=P) (t:=t) hs);rename_i t x y ho;split at h;rename_i b d h2 h3;obtain⟨v,h1,rfl⟩:=map_some h;simp only[execOp,ho];exact OS (iC hs h1 (Je x (by rw[ho];simp[bbF]) b h2) (Je y (by rw[ho];simp[bbF]) d h3));cases h;rename_i t x lo hi mx ho;split at h;rename_i b l hh m h2 h3 h4 h5;obtain⟨v,h1,rfl⟩:=map_some h;simp only[execOp,ho];exact Es hs (afK h1 (Je x (by rw[ho];simp[bbF]) b h2) (xH (λy hy=>Je y (by rw[ho];simp only[bbF,beT];exact .inl (.inl (.inr hy)))) h3) (xH (λy hy=>Je y (by rw[ho];simp only[bbF,beT];exact .inl (.inr hy))) h4) (xH (λy hy=>Je y (by rw[ho];simp only[bbF,beT];exact .inr hy)) h5));cases h;rename_i t x k ho;obtain⟨v,h1,rfl⟩:=map_some h;obtain⟨b,h2,h3⟩:=bind_some h1;simp only[execOp,ho];exact Es hs (pT h3 (Je x (by rw[ho];simp[bbF]) b h2));rename_i t x k ho;obtain⟨v,h1,rfl⟩:=map_some h;obtain⟨b,h2,h3⟩:=bind_some h1;simp only[execOp,ho];exact Es hs (afG h3 (Je x (by rw[ho];simp[bbF]) b h2) w);rename_i t x y ho;split at h;rename_i b d h2 h3;obtain⟨v,h1,rfl⟩:=map_some h;simp only[execOp,ho];exact Es hs (pU h1 (Je x (by rw[ho];simp[bbF]) b h2) (Je y (by rw[ho];simp[bbF]) d h3));cases h;rename_i t x y ho;split at h;rename_i b d h2 h3;obtain⟨v,h1,rfl⟩:=map_some h;simp only[execOp,ho];exact Es hs (afH h1 (Je x (by rw[ho];simp[bbF]) b h2) (Je y (by rw[ho];simp[bbF]) d h3) w);cases h;rename_i t x k ok ho;split at h;rename_i b d h2 h3;obtain⟨v,h1,rfl⟩:=map_some h;simp only[execOp,ho];exact Es hs (wP hs h1 (Je x (by rw[ho];simp[bbF]) b h2) (Je k (by rw[ho];simp[bbF]) d h3));cases h;rename_i t m k x ho;split at h;rename_i b d e h2 h3 h4;obtain⟨s',h1,rfl⟩:=map_some h;simp only[execOp,ho];exact Uq (bR hs h1 (Je m (by rw[ho];simp[bbF]) b h2) (Je k (by rw[ho];simp[bbF]) d h3) (Je x (by rw[ho];simp[bbF]) e h4));cases h;rename_i t m k x ho;split at h;rename_i b d e h2 h3 h4;obtain⟨s',h1,rfl⟩:=map_some h;simp only[execOp,ho];exact Uq (bR hs h1 (Je m (by rw[ho];simp[bbF]) b h2) (Je k (by rw[ho];simp[bbF]) d h3) (Je x (by rw[ho];simp[bbF]) e h4));cases h;rename_i t m k ho;split at h;rename_i b d h2 h3;obtain⟨v,h1,rfl⟩:=map_some h;simp only[execOp,ho];obtain⟨u,w',q1,q2⟩:=mI hs h1 (Je m (by rw[ho];simp[bbF]) b h2) (Je k (by rw[ho];simp[bbF]) d h3);exact OS ⟨u,w',c,q1,q2⟩;cases h;rename_i t m st x ho;split at h;rename_i b d e h2 h3 h4;obtain⟨s',h1,rfl⟩:=map_some h;simp only[execOp,ho];exact Uq (bO hs h1 (Je m (by rw[ho];simp[bbF]) b h2) (Je st (by rw[ho];simp[bbF]) d h3) (Je x (by rw[ho];simp[bbF]) e h4));cases h;rename_i x k ho;obtain⟨v,h1,rfl⟩:=map_some h;obtain⟨b,h2,h3⟩:=bind_some h1;simp only[execOp,ho];exact Es hs (pS h3 (Je x (by rw[ho];simp[bbF]) b h2) w);rename_i cl ho;simp only[execOp,ho];exact ajK hs (λx hx=>Je x (by rw[ho];exact hx)) h;rename_i x ho;split at h;rename_i t v h1;cases h;have hr:=Je x (by rw[ho];simp[bbF]) _ h1;simp only[execOp,ho];generalize ρ x=vx at hr;cases hr with|ifc q=>exact⟨_,by simp[Instr.panic],.ifc q⟩
 cases h;cases h
def wO{P:Program}{G:AP}{c:Cx}{w:World}{s:AS}{ρ:Operand->Value}{o:Oper}{e:TypeId}{z:AV}{id:Nat}(hs:St G c w s)(ho:o.op=.alloc e)(hz:LA P e=some z)(hid:c.CG[id]?=some none)(xO:s.get id=some (.cells (cellsOf z))) :
   ∃u w' c',(execOp ρ o).run P w=.ok (.value u) w'/\Mon c w c' w'/\St G c' w' s/\Rp c' w' (.ptr id 0) u/\(∀c0 w0,Ext c0 w0 c w->c0.CG.length<=id->Ext c0 w0 c' w')/\∀i,i≠id->c'.CG[i]?=c.CG[i]?:=by
 obtain⟨zv,hzr,hzp⟩:=WB hz c w w;obtain⟨v',w',c',h2,h3⟩:=afD (P:=P) (t:=e) hs hzp (jS hz) hid xO;refine⟨v',w',c',?_,h3⟩;simp only[execOp,ho];simp only[bgT,bbA] at h2;simp only[Instr.alloc,bbA,hzr,baZ];rw[h2];simp
end AI
namespace AI
open Go Go.RowKit
def VJ(acc:List Nat):List Edge->Nat
 |[]=>0
 |e::es=>if bgN .any e then VJ acc es ||| 2 ^ e.on ||| acc.getD e.on 0 else VJ acc es
def Im:List Oper->List Nat->List Nat
 |[],acc=>acc
 |o::os,acc=>Im os (acc++[VJ acc o.after.toList])
def Met(L:Nat->Bool)(o:Oper):Prop:=∀e∈o.after,bgN .any e=true->L e.on=true
def OM(ops:List Oper)(L:Nat->Bool):Prop:=∀i o,ops[i]?=some o->L i=true->Met L o
def agS{ops:List Oper}{L:Nat->Bool}(hc:OM ops L){acc:List Nat}(rP:∀(j:Nat) m,acc[j]?=some m->∀o,ops[j]?=some o->∀i,m.testBit i=true->Met L o->L i=true)(hlen:acc.length<=ops.length)
   (es:List Edge) {i:Nat} (hb:(VJ acc es).testBit i=true) (hm:∀e∈es,bgN .any e=true->L e.on=true):L i=true:=by
 induction es with
 |nil=>simp[VJ] at hb
 |cons e es ih=>
  simp only[VJ] at hb;split at hb
  ·rename_i hbe
   rw[blB,blB,biS,biS] at hb;have he:=hm e bbU hbe;rcases hb with (hb | hb) | hb
   exact ih hb (λe he=>hm e (bbP _ he));rw[Nat.testBit_two_pow] at hb;have:e.on=i:=by simpa using hb
   rw[<- this];exact he
   ·rw[bcR] at hb
    cases hg:acc[e.on]? with
    |none=>rw[hg] at hb;simp at hb
    |some m=>
     rw[hg] at hb;have hl:=(aHS.1 hg).1;have hl2:e.on < ops.length:=by omega
     exact rP e.on m hg ops[e.on] (atS hl2) i hb (hc e.on _ (atS hl2) he)
  exact ih hb (λe he=>hm e (bbP _ he))
def aoV{ops:List Oper}{L:Nat->Bool}(hc:OM ops L):∀(os:List Oper)(acc:List Nat),(∀k,os[k]?=ops[acc.length+k]?)->acc.length<=ops.length->(∀(j:Nat) m,acc[j]?=some m->∀o,ops[j]?=some o->∀i,m.testBit i=true->Met L o->L i=true) ->
 ∀(j:Nat) m,(Im os acc)[j]?=some m->∀o,ops[j]?=some o->∀i,m.testBit i=true->Met L o->L i=true:=by
 intro os
 induction os with
 |nil=>intro acc _ _ rP;exact rP
 |cons o os ih=>
  intro acc hk hl rP;have h0:ops[acc.length]?=some o:=by have:=hk 0;simpa using this.symm
  have hlt:=(aHS.1 h0).1;refine ih (acc++[VJ acc o.after.toList]) (λk=>?_) (by simp;omega) (λj m hj o' Y9 i hb hm=>?_);have:=hk (k+1);simp only[List.getElem?_cons_succ] at this;rw[this];congr 1;simp;omega;by_cases hjl:j < acc.length;rw[aUY hjl] at hj;exact rP j m hj o' Y9 i hb hm;have hl2:=(aHS.1 hj).1;simp at hl2;have:j=acc.length:=by omega
  subst this;rw[bdJ] at hj;cases hj;rw[h0] at Y9;cases Y9;exact agS hc rP hl _ hb (λe he=>hm e (bdU.1 he))
def Um(ms:List Nat)(j i:Nat):Bool:=(ms.getD j 0).testBit i
def cF{ops:List Oper}{L:Nat->Bool}(hc:OM ops L){j i:Nat}{o:Oper}(ho:ops[j]?=some o)(hm:Met L o)(hd:Um (Im ops []) j i=true):L i=true:=by
 unfold Um at hd;rw[bcR] at hd;cases hg:(Im ops [])[j]? with
 |none=>rw[hg] at hd;simp at hd
 |some m=>
  rw[hg] at hd;exact aoV hc ops [] (λk=>by simp) (by simp) (λj m h=>by simp at h) j m hg o ho i hd hm
def quiet:Op->Bool
 |.move _ | .assign _ | .pick .. | .build .. | .buildSlice .. | .load .. | .nilCheck _ | .binOp .. | .unOp .. | .convert .. | .makeInterface .. | .makeFunc .. | .slice .. | .fieldAddr .. | .field .. | .indexAddr .. | .index .. | .lookup .. | .extract ..=>true
 |.call cl=>(match cl.callee with
  |.builtin .len | .builtin .max | .builtin .min=>true
  |_=>false)
 |_=>false
def BQ:Op->Bool
 |.alloc _=>true
 |_=>false
def K4{op:Op}(h:BQ op=true):∃e,op=.alloc e:=by unfold BQ at h;split at h;exact⟨_,rfl⟩;cases h
def calm(op:Op):Bool:=match BQ op with|true=>true|false=>quiet op
def cD{op:Op}(h:quiet op=true):calm op=true:=by unfold calm;cases BQ op;exact h;rfl
def cC{op:Op}(h:calm op=true):quiet op=true\/∃e,op=.alloc e:=by unfold calm at h;cases ha:BQ op with|true=>exact .inr (K4 ha)|false=>rw[ha] at h;exact .inl h
def wF:List Oper->Nat->Nat
 |_,0=>0
 |[],_+1=>0
 |o::l,n+1=>(match BQ o.op with | true=>1 | false=>0)+wF l n
def rk(ops:Array Oper)(i:Nat):Nat:=wF ops.toList i
def zN{l:List Oper}{i j:Nat}{o:Oper}(ho:l[i]?=some o)(ha:BQ o.op=true)(h:i < j):wF l i < wF l j:=by
 induction l generalizing i j with
 |nil=>simp at ho
 |cons x l ih=>
  cases j with
  |zero=>omega
  |succ j=>
   cases i with
   |zero=>
    simp at ho;subst ho;simp only[wF,ha];omega
   |succ i=>
    have:=ih (i:=i) (j:=j) (by simpa using ho) (by omega)
    simp only[wF];omega
def aLD{ops:Array Oper}{i j:Nat}{x y:Oper}(hx:ops[i]?=some x)(hy:ops[j]?=some y)(hxa:BQ x.op=true)(nX:BQ y.op=true)(h:rk ops i=rk ops j):i=j:=by
 have dN:ops.toList[i]?=some x:=by rw[bbE];exact hx
 have hy':ops.toList[j]?=some y:=by rw[bbE];exact hy
 unfold rk at h;rcases bjZ i j with hlt | he | hlt
 have:=zN dN hxa hlt;omega;exact he;have:=zN hy' nX hlt;omega
def Q5(ops:Array Oper)(x y:Oper):Bool :=
 (!calm x.op&&!calm y.op) ||
 (match x.dst with
  |some d=>(y.looksAt ops).contains d||y.dst == some d
  |none=>false) ||
 (match y.dst with|some d=>(x.looksAt ops).contains d|none=>false)
def eL(ops:Array Oper)(ms:List Nat)(j:Nat)(y:Oper):List Oper->Nat->Bool
 |[],_=>true
 |x::xs,i=>(if i < j then !Q5 ops x y||Um ms j i else true)&&eL ops ms j y xs (i+1)
def aT(ops:Array Oper)(ms:List Nat):List Oper->Nat->Bool
 |[],_=>true
 |y::ys,j=>eL ops ms j y ops.toList 0&&(y.after.toList.all λe=>!Region.binds .any e||decide (e.on < j))&&aT ops ms ys (j+1)
def Nb(ops:Array Oper):Bool:=aT ops (Im ops.toList []) ops.toList 0
def agW{ops:Array Oper}{ms:List Nat}{j:Nat}{y:Oper}:∀(xs:List Oper)(i:Nat),eL ops ms j y xs i=true->∀k x,xs[k]?=some x->i+k < j->Q5 ops x y=true->Um ms j (i+k)=true:=by
 intro xs
 induction xs with
 |nil=>intro i _ k x hx;simp at hx
 |cons z xs ih=>
  intro i h k x hx hlt Ib;simp only[eL,aUR] at h;cases k with
  |zero=>
   simp at hx;subst hx;rw[bcS] at hlt ⊢;have:=h.1;rw[if_pos hlt,Ib] at this;simpa using this
  |succ k=>
   have:=ih (i+1) h.2 k x (by simpa using hx) (by omega) Ib
   rwa[show i+1+k=i+(k+1) from by omega] at this
def eM{ops:Array Oper}{ms:List Nat}:∀(ys:List Oper)(j:Nat),aT ops ms ys j=true->∀k y,ys[k]?=some y->eL ops ms (j+k) y ops.toList 0=true/\∀e∈y.after,bgN .any e=true->e.on < j+k:=by
 intro ys
 induction ys with
 |nil=>intro j _ k y hy;simp at hy
 |cons z ys ih=>
  intro j h k y hy;simp only[aT,aUR] at h;cases k with
  |zero=>
   simp at hy;subst hy;refine⟨h.1.1,λe he hb=>?_⟩;have:=bcC.1 h.1.2 e (bdU.2 he);rw[hb] at this;simpa using this
  |succ k=>
   have:=ih (j+1) h.2 k y (by simpa using hy)
   rwa[show j+1+k=j+(k+1) from by omega] at this
def lA{ops:Array Oper}(h:Nb ops=true){i j:Nat}{x y:Oper}(hx:ops[i]?=some x)(hy:ops[j]?=some y)(hlt:i < j)(hc:Q5 ops x y=true):Um (Im ops.toList []) j i=true:=by have h1:=(eM ops.toList 0 h j y (by rw[bbE];exact hy)).1;rw[aUU] at h1;have:=agW ops.toList 0 h1 i x (by rw[bbE];exact hx) (by omega) hc;rwa[aUU] at this
def sV{ops:Array Oper}(h:Nb ops=true){j:Nat}{y:Oper}(hy:ops[j]?=some y){e:Edge}(he:e∈y.after)(hb:bgN .any e=true):e.on < j:=by have:=(eM ops.toList 0 h j y (by rw[bbE];exact hy)).2 e he hb;omega
def JD(fr:List AV)(dst:Option Tmp)(v:AV):List AV:=match dst with|some d=>fr.set d v|none=>fr
def Ui{c:Cx}{w:World}{fr:List AV}{a:Act}{dst:Option Tmp}{v:AV}{u:Value}(h:CF c w fr a.tmps.toList)(hv:Rp c w v u):CF c w (JD fr dst v) (a.put dst u).tmps.toList:=by cases dst with|none=>exact h|some d=>simp only[JD,Act.put,bhO];exact h.set hv d
def IL(f0:List AV)(dst:Nat->Option Tmp)(vals:Nat->AV)(L:Nat->Bool):Nat->List AV
 |0=>f0
 |n+1=>if L n then JD (IL f0 dst vals L n) (dst n) (vals n) else IL f0 dst vals L n
def Tl{fr:List AV}{dst:Option Tmp}{v:AV}{t:Nat}(h:dst≠some t):(JD fr dst v)[t]?=fr[t]?:=by cases dst with|none=>rfl|some d=>exact beH (λe=>h (by rw[e]))
def ajR{fr:List AV}{dst:Option Tmp}{v:AV}:(JD fr dst v).length=fr.length:=by cases dst<;>simp[JD]
def PT{fr:List AV}{v:AV}{t:Nat}:(JD fr (some t) v)[t]?=if t < fr.length then some v else none:=by simp[JD,bkB]
def aO(f0:List AV)(dst:Nat->Option Tmp)(vals:Nat->AV)(L:Nat->Bool)(n:Nat):(IL f0 dst vals L n).length=f0.length:=by induction n with|zero=>rfl|succ n ih=>simp only[IL];split<;>simp[ajR,ih]
def cR{f0:List AV}{dst:Nat->Option Tmp}{vals:Nat->AV}{L M:Nat->Bool}{t:Nat}:∀(n:Nat),(∀i,i < n->dst i=some t->L i=M i)->(IL f0 dst vals L n)[t]?=(IL f0 dst vals M n)[t]?:=by
 intro n
 induction n with
 |zero=>intro _;rfl
 |succ n ih=>
  intro h;have ih:=ih (λi hi hd=>h i (by omega) hd);by_cases hd:dst n=some t;have:=h n (by omega) hd;simp only[IL,this];split;rw[hd,PT,PT,aO,aO];exact ih
  have e:∀K:Nat->Bool,(IL f0 dst vals K (n+1))[t]?=(IL f0 dst vals K n)[t]?:=by intro K;simp only[IL];split;exact Tl hd;rfl
  rw[e,e,ih]
def abP{f0:List AV}{dst:Nat->Option Tmp}{vals:Nat->AV}{L:Nat->Bool}{t j:Nat}:∀(n:Nat),j<=n->(∀i,j<=i->i < n->dst i=some t->L i=false)->(IL f0 dst vals L n)[t]?=(IL f0 dst vals L j)[t]?:=by
 intro n
 induction n with
 | zero=>intro hj _;have:j=0:=by omega
         subst this;rfl
 |succ n ih=>
  intro hj h;by_cases hn:j=n+1;subst hn;rfl;have ih:=ih (by omega) (λi h1 h2 hd=>h i h1 (by omega) hd);rw[<- ih];simp only[IL];split;rename_i hL;by_cases hd:dst n=some t;have:=h n (by omega) (by omega) hd;rw[this] at hL;cases hL;exact Tl hd;rfl
end AI
namespace AI
open Go Go.RowKit
inductive AX where
 |normal
 |exit (id:Nat)
 |ret
 |pan (v:AV)
inductive CR where
 |ret (v:AV)
 |pan (v:AV)
def Cp(ops:Array Oper)(fr:List AV)(o:Oper):Bool:=match o.guard with
 |none=>true
 |some (j,want)=>match (ops[j]?).bind (·.dst) with
  |some d=>match fr[d]? with|some (.sc (.bool b))=>b == want|_=>false
  |none=>false
def FR(id:Nat):AX->AX
 |.exit SI=>if SI=id then .normal else .exit SI
 |e=>e
def WA(P:Program)(s:AS)(fr:List AV):ResultVar->Option AV
 |.tmp t=>some (fr.getD t (.sc undef))
 |.cell t ty=>Lf P s ty (fr.getD t (.sc undef))
def QZ(P:Program)(s:AS)(fr:List AV):List ResultVar->Option (List AV)
 |[]=>some []
 |r::rs=>match WA P s fr r,QZ P s fr rs with|some a,some as=>some (a::as)|_,_=>none
def I5(P:Program)(s:AS)(fn:Func)(fr:List AV):Option AV:=match QZ P s fr fn.results.toList with|some [a]=>some a|some as=>some (.DW as)|none=>none
inductive Jd where
 |code (c:Code) (fr:List AV) (s:AS) (e:AX) (Cj:List AV) (s':AS)
 |loop (c:Code) (fr:List AV) (s:AS) (e:AX) (Cj:List AV) (s':AS)
 |ops (ops:Array Oper) (l:List Nat) (fr:List AV) (s:AS) (e:AX) (Cj:List AV) (s':AS)
 |op (ops:Array Oper) (o:Oper) (fr:List AV) (s:AS) (r:CR) (s':AS)
 |call (f:FuncId) (args:List AV) (s:AS) (r:CR) (s':AS)
def B8(ops:Array Oper)(i:Nat):Option Tmp:=(ops[i]?).bind (·.dst)
def eE(ops:Array Oper)(i:Nat):Prop:=∃o,ops[i]?=some o/\calm o.op=false
def Win(ops:Array Oper)(i k:Nat):Prop:=(∀l,eE ops l->Um (Im ops.toList []) i l=true->l < k)/\(∀l,eE ops l->Um (Im ops.toList []) l i=true->k<=l)
abbrev XX:=FuncId->List AV->AS->CR->AS->Prop
abbrev Vp:=FuncId->List AV->Option (FuncId×List AV×(CR->Option CR))
def aNF(P:Program)(G:AP)(t tx:TypeId)(a b:AV)(s:AS)(v:AV)(s':AS):Prop:=∀(c:Cx)(w:World)(va vb:Value)(ty:TypeId),St G c w s->Rp c w a va->Rp c w b vb ->
 ∃u w' c',(bdM #[t,tx] ty #[va,vb]).run P w=.ok u w'/\Ext c w c' w'/\St G c' w' s'/\Rp c' w' v u
def aTT(G:AP)(c:Cx)(w:World)(r:CR)(s':AS)(e:Ending)(w':World):Prop :=
 ∃c',Ext c w c' w'/\St G c' w' s'/\match r with|.ret v=>∃u,e=.returned u/\Rp c' w' v u|.pan v=>∃u,e=.panicked [{ v:=u,recovered:=false }]/\Rp c' w' v u
def U8(G:AP)(c:Cx)(w:World)(e:AX)(Cj:List AV)(s':AS)(e':Exit)(a':Act)(w':World):Prop :=
 ∃c',Ext c w c' w'/\St G c' w' s'/\a'.defers=[]/\match e with|.normal=>e'=.normal/\CF c' w' Cj a'.tmps.toList|.exit id=>e'=.exit id/\CF c' w' Cj a'.tmps.toList|.ret=>e'=.ret/\CF c' w' Cj a'.tmps.toList|.pan v=>∃u,e'=.panic [{ v:=u,recovered:=false }]/\Rp c' w' v u
def U8.ext{G:AP}{c c1:Cx}{w w1:World}{e:AX}{Cj:List AV}{s':AS}{e':Exit}{a':Act}{w':World}(x:Ext c w c1 w1)(h:U8 G c1 w1 e Cj s' e' a' w'):U8 G c w e Cj s' e' a' w':=by obtain⟨c',h1,h2⟩:=h;exact⟨c',x.trans h1,h2⟩
def PH(P:Program)(ops:Array Oper)(o:Oper)(K:Act->World->Prop)(Q:Exit->Act->World->Prop)(a:Act)(w:World):Prop :=
 if bdX o (yielded ops a.tmps) then o.wp P a w K Q else K (a.put o.dst undef) w
def Sound(P:Program)(G:AP):Jd->Prop
 |.code c fr s e Cj s'=>∀(cx:Cx)(w:World)(a:Act)(Q:Exit->Act->World->Prop),St G cx w s->CF cx w fr a.tmps.toList->a.defers=[]->(∀e' a' w',U8 G cx w e Cj s' e' a' w'->Q e' a' w')->c.wp P Q a w
 |.loop c fr s e Cj s'=>∃n,∀(cx:Cx)(w:World)(a:Act)(Q:Exit->Act->World->Prop),St G cx w s->CF cx w fr a.tmps.toList->a.defers=[]->(∀e' a' w',U8 G cx w e Cj s' e' a' w'->Q e' a' w')->Code.rounds P c Q n a w
 |.ops ops l fr s e Cj s'=>∀(cx:Cx)(w:World)(a:Act)(Q:Exit->Act->World->Prop),St G cx w s->CF cx w fr a.tmps.toList->a.defers=[]->(∀e' a' w',U8 G cx w e Cj s' e' a' w'->Q e' a' w')->wpOps P ops Q l a w
 |.op ops o fr s r s'=>∀(cx:Cx)(w:World)(a:Act)(K:Act->World->Prop)(Q:Exit->Act->World->Prop),St G cx w s->(∀x∈o.op.operands,iB G cx w fr a.eval x)->Cp ops fr o=bdX o (yielded ops a.tmps) ->
  (match r with|.ret v=>∀u w' c',Ext cx w c' w'->St G c' w' s'->Rp c' w' v u->K (a.put o.dst u) w'|.pan v=>∀u w' c',Ext cx w c' w'->St G c' w' s'->Rp c' w' v u->Q (.panic [{ v:=u,recovered:=false }]) a w')->PH P ops o K Q a w
 |.call f args s r s'=>∀(cx:Cx)(w:World)(vs:List Value),St G cx w s->CF cx w args vs->Calls P f vs.toArray w (aTT G cx w r s')
inductive J(P:Program)(G:AP)(X:XX)(H:Vp):Jd->Prop where
 |skip {fr:List AV}{s:AS}:J P G X H (.code .skip fr s .normal fr s)
 |exit {id:Nat}{fr:List AV}{s:AS}:J P G X H (.code (.exit id) fr s (.exit id) fr s)
 |ret {fr:List AV}{s:AS}:J P G X H (.code .ret fr s .ret fr s)
 |seq {x y:Code}{fr Wr Cj:List AV}{s s1 s':AS}{e:AX} (h1:J P G X H (.code x fr s .normal Wr s1)) (h2:J P G X H (.code y Wr s1 e Cj s')):J P G X H (.code (.seq x y) fr s e Cj s')
 |aaC {x y:Code}{fr Cj:List AV}{s s':AS}{e:AX} (h1:J P G X H (.code x fr s e Cj s')) (he:e≠.normal):J P G X H (.code (.seq x y) fr s e Cj s')
 |cond {q:Operand}{x y:Code}{t:Bool}{fr Cj:List AV}{s s':AS}{e:AX} (hq:A3 G fr q=some (.sc (.bool t))) (h:J P G X H (.code (if t then x else y) fr s e Cj s')):J P G X H (.code (.cond q x y) fr s e Cj s')
 |block {id:Nat}{c:Code}{fr Cj:List AV}{s s':AS}{e:AX} (h:J P G X H (.code c fr s e Cj s')):J P G X H (.code (.block id c) fr s (FR id e) Cj s')
 |alX {c:Code}{fr Cj:List AV}{s s':AS}{e:AX} (h:J P G X H (.code c fr s e Cj s')):J P G X H (.code (.scope c) fr s e Cj s')
 |label {l:Nat}{fr:List AV}{s:AS}:J P G X H (.code (.label l) fr s .normal fr s)
 |loop {c:Code}{fr Cj:List AV}{s s':AS}{e:AX} (h:J P G X H (.loop c fr s e Cj s')):J P G X H (.code (.loop c) fr s e Cj s')
 |aoQ {c:Code}{fr Wr Cj:List AV}{s s1 s':AS}{e:AX} (h1:J P G X H (.code c fr s .normal Wr s1)) (h2:J P G X H (.loop c Wr s1 e Cj s')):J P G X H (.loop c fr s e Cj s')
 |eD {c:Code}{fr Cj:List AV}{s s':AS}{e:AX} (h1:J P G X H (.code c fr s e Cj s')) (he:e≠.normal):J P G X H (.loop c fr s e Cj s')
 |region {id:Nat}{ops:Array Oper}{fr Cj:List AV}{s s':AS}{e:AX} (h:J P G X H (.ops ops (bcB ops.size) fr s e Cj s')):J P G X H (.code (.region id ops false) fr s e Cj s')
 |apT {ops:Array Oper}{fr:List AV}{s:AS}:J P G X H (.ops ops [] fr s .normal fr s)
 |acT {ops:Array Oper}{i:Nat}{l:List Nat}{o:Oper}{v:AV}{fr Cj:List AV}{s s1 s':AS}{e:AX} (ho:ops[i]?=some o) (h:J P G X H (.op ops o fr s (.ret v) s1)) (t:J P G X H (.ops ops l (JD fr o.dst v) s1 e Cj s')):J P G X H (.ops ops (i::l) fr s e Cj s')
 |apU {ops:Array Oper}{i:Nat}{l:List Nat}{o:Oper}{v:AV}{fr:List AV}{s s1:AS} (ho:ops[i]?=some o) (h:J P G X H (.op ops o fr s (.pan v) s1)):J P G X H (.ops ops (i::l) fr s (.pan v) fr s1)
 |O1 {ops:Array Oper}{o:Oper}{fr:List AV}{s s':AS}{v:AV} (hw:Cp ops fr o=true) (h:RJ P G fr s o=some (.val v s')):J P G X H (.op ops o fr s (.ret v) s')
 |yW {ops:Array Oper}{o:Oper}{fr:List AV}{s s':AS}{v v2:AV} (hq:quiet o.op=false) (h:J P G X H (.op ops o fr s (.ret v) s')) (hv:∀cx w u,Rp cx w v u->Rp cx w v2 u):J P G X H (.op ops o fr s (.ret v2) s')
 |oI {ops:Array Oper}{o:Oper}{fr:List AV}{s s1 s2:AS}{v:AV} (hq:quiet o.op=false) (h:J P G X H (.op ops o fr s (.ret v) s1)) (hs:∀cx w,St G cx w s1->St G cx w s2):J P G X H (.op ops o fr s (.ret v) s2)
 |apQ {ops:Array Oper}{o:Oper}{fr:List AV}{s s':AS}{cl:Call}{x y:Operand}{t tx:TypeId}{a b v:AV} (hw:Cp ops fr o=true) (ho:o.op=.call cl) (Ib:cl.callee=.builtin .append) (hx:cl.args.toList=[x,y]) (ht:cl.argTypes.toList=[t,tx]) (ha:A3 G fr x=some a) (hb:A3 G fr y=some b) (h:aNF P G t tx a b s v s'):J P G X H (.op ops o fr s (.ret v) s')
 |yU {ops:Array Oper}{o:Oper}{fr:List AV}{s:AS} (hw:Cp ops fr o=false):J P G X H (.op ops o fr s (.ret (.sc undef)) s)
 |TQ {ops:Array Oper}{o:Oper}{fr:List AV}{s s':AS}{f:FuncId}{args:List AV}{r:CR} (hw:Cp ops fr o=true) (h:RJ P G fr s o=some (.ent f args)) (hc:J P G X H (.call f args s r s')):J P G X H (.op ops o fr s r s')
 |aDN {ops:Array Oper}{o:Oper}{fr:List AV}{s:AS}{v:AV} (hw:Cp ops fr o=true) (h:RJ P G fr s o=some (.pan v)):J P G X H (.op ops o fr s (.pan v) s)
 | draw {id:Nat}{ops:Array Oper}{f0:List AV}{s0:AS} (rs:List AF) (vals:Nat->AV) (N4:Nat->AS) (h0:N4 0=s0.hold rs) (Hz:Nb ops=true)
     (hl:∀i o,ops[i]?=some o->calm o.op=false->J P G X H (.op ops o (IL f0 (B8 ops) vals (λ_=>true) i) (N4 i) (.ret (vals i)) (N4 (i+1))))
     (hq:∀i o,ops[i]?=some o->quiet o.op=true->N4 (i+1)=N4 i/\((Cp ops (IL f0 (B8 ops) vals (λ_=>true) i) o=false/\vals i=.sc undef)\/(Cp ops (IL f0 (B8 ops) vals (λ_=>true) i) o=true/\∀k,k<=ops.size->Win ops i k->RJ P G (IL f0 (B8 ops) vals (λ_=>true) i) (N4 k) o=some (.val (vals i) (N4 k)))))
     (ha:∀i o e,ops[i]?=some o->o.op=.alloc e->N4 (i+1)=N4 i/\((Cp ops (IL f0 (B8 ops) vals (λ_=>true) i) o=false/\vals i=.sc undef)\/(Cp ops (IL f0 (B8 ops) vals (λ_=>true) i) o=true/\∃z,LA P e=some z/\rk ops i < rs.length/\vals i=.ptr (s0.nx+rk ops i) 0/\∀k,k<=ops.size->Win ops i k->(N4 k).get (s0.nx+rk ops i)=some (.cells (cellsOf z))))):
     J P G X H (.code (.region id ops true) f0 s0 .normal (IL f0 (B8 ops) vals (λ_=>true) ops.size) (N4 ops.size))
 |body {f:FuncId}{fn:Func}{c:Code}{args Cj:List AV}{s s' s2:AS}{e:AX}{v:AV} (hf:P.funcs[f]?=some fn) (hb:fn.body=some c) (h:J P G X H (.code c (args++bdF (fn.ntmps - args.length) (.sc undef)) s e Cj s')) (he:e=.normal\/e=.ret) (hr:I5 P s' fn Cj=some v) (hk:s2=s'.cut s.nx\/s2=s'):J P G X H (.call f args s (.ret v) s2)
 |YY {f:FuncId}{fn:Func}{c:Code}{args Cj:List AV}{s s':AS}{v:AV} (hf:P.funcs[f]?=some fn) (hb:fn.body=some c) (h:J P G X H (.code c (args++bdF (fn.ntmps - args.length) (.sc undef)) s (.pan v) Cj s')):J P G X H (.call f args s (.pan v) (s'.cut s.nx))
 |ext {f:FuncId}{args:List AV}{s s':AS}{r:CR} (h:X f args s r s'):J P G X H (.call f args s r s')
 |atV {c:Code}{fr G5 Cj:List AV}{s s2 s':AS}{e:AX} (hw:∀cx w vs,St G cx w s->CF cx w fr vs->∃cx2,Ext cx w cx2 w/\St G cx2 w s2/\CF cx2 w G5 vs) (h:J P G X H (.code c G5 s2 e Cj s')):J P G X H (.code c fr s e Cj s')
 |aEK {c:Code}{fr G5 Cj:List AV}{s s2 s':AS}{e:AX} (hw:∀cx w vs,St G cx w s->CF cx w fr vs->∃cx2,Ext cx w cx2 w/\St G cx2 w s2/\CF cx2 w G5 vs) (h:J P G X H (.loop c G5 s2 e Cj s')):J P G X H (.loop c fr s e Cj s')
 |scope {c:Code}{fr G5 Cj:List AV}{s s2 s':AS}{e:AX} (h:J P G X H (.code c fr s e Cj s')) (he:∀v,e≠.pan v) (hs:∀cx w c' w' vs,Ext cx w c' w'->St G cx w s->St G c' w' s'->CF c' w' Cj vs->∃c2,Ext cx w c2 w'/\St G c2 w' s2/\CF c2 w' G5 vs):J P G X H (.code c fr s e G5 s2)
 |aIK {f g:FuncId}{args cS:List AV}{k:CR->Option CR}{s s':AS}{r r':CR} (hh:H f args=some (g,cS,k)) (h:J P G X H (.call g cS s r s')) (hk:k r=some r'):J P G X H (.call f args s r' s')
 |sem {c:Code}{fr Cj:List AV}{s s':AS}{e:AX} (h:P.follows .mixedOrders=true->Sound P G (.code c fr s e Cj s')):J P G X H (.code c fr s e Cj s')
def OO{ops:Array Oper}{fr:List AV}{o:Oper}{c:Cx}{w:World}{tmps:Array Value}(h:∀j want,o.guard=some (j,want)->∀d,(ops[j]?).bind (·.dst)=some d->∃M,CF c w M tmps.toList/\M[d]?=fr[d]?):Cp ops fr o=bdX o (yielded ops tmps):=by
 unfold Cp bdX;cases hg:o.guard with
 |none=>rfl
 |some p=>
  obtain⟨j,want⟩:=p;simp only;unfold yielded;cases hd:(ops[j]?).bind (·.dst) with
  |none=>simp
  |some d=>
   obtain⟨M,hM,he⟩:=h j want hg d hd;simp only[TC];rw[<- he];cases hm:M[d]? with
   |none=>
    have hl:=hM.len;have h1:=bfT.1 hm;have h2:tmps[d]?=none:=beQ (by rw[<- bbN];omega);simp[h2]
   |some b=>
    obtain⟨u,hu,hr⟩:=hM.get hm;rw[bbE] at hu;rw[hu];cases hr with
    |sc hs=>cases u<;>simp
    |any hs=>cases u<;>first | (simp[aH] at hs;done) | simp
    |_=>simp
def ahI(tmps:Array Value):ResultVar->Sem Value
 |.tmp t=>pure (tmps.getD t undef)
 |.cell a t=>do loadVar t (<- asAddr (tmps.getD a undef))
def V9(fn:Func)(tmps:Array Value):results fn tmps=(do
 let vs <- fn.results.mapM (ahI tmps)
 pure (if h:vs.size=1 then vs[0] else .tuple vs)):=by
 unfold results;congr 2
def qB{P:Program}{G:AP}{c:Cx}{w:World}{s:AS}{fr:List AV}{tmps:Array Value}(hs:St G c w s)(hf:CF c w fr tmps.toList){r:ResultVar}{v:AV}(h:WA P s fr r=some v) :
   ∃u,(ahI tmps r).run P w=.ok u w/\Rp c w v u:=by
 have ht:∀t,Rp c w (fr.getD t (.sc undef)) (tmps.getD t undef):=λt=>GA (G:=G) (s:=s) (a:=⟨tmps,[]⟩) (x:=.tmp t) hs hf rfl;cases r with
 |tmp t=>simp only[WA,aUQ] at h;subst h;exact⟨_,rfl,ht t⟩
 |cell t ty=>
  obtain⟨u,h1,h2⟩:=pW hs h (ht t);refine⟨u,?_,h2⟩;have hr:=ht t;simp only[bgH,bbA] at h1;simp only[ahI,bbA];generalize tmps.getD t undef=x at hr h1;simp only[WA] at h;unfold Lf at h;split at h;rename_i QT;rw[QT] at hr;cases hr;simpa[asAddr,bdK] using h1
  rename_i QT;rw[QT] at hr;cases hr;simpa[asAddr,bdK] using h1
  cases h
def qC{P:Program}{G:AP}{c:Cx}{w:World}{s:AS}{fr:List AV}{tmps:Array Value}(hs:St G c w s)(hf:CF c w fr tmps.toList)(rs:List ResultVar){vs:List AV}(h:QZ P s fr rs=some vs) :
   ∃us,(rs.mapM (ahI tmps)).run P w=.ok us w/\CF c w vs us:=by
 induction rs generalizing vs with
 |nil=>simp[QZ] at h;subst h;exact⟨[],rfl,.nil⟩
 |cons r rs ih=>
  simp only[QZ] at h;split at h;rename_i a as h1 h2;cases h;obtain⟨u,hu,hr⟩:=qB hs hf h1;obtain⟨us,hus,hrs⟩:=ih h2;refine⟨u::us,?_,.cons hr hrs⟩;rw[bkX];simp only[bbA,hu,baZ,hus,bcG];cases h
def YW{P:Program}{G:AP}{c:Cx}{w:World}{s:AS}{fr:List AV}{tmps:Array Value}{fn:Func}{v:AV}(hs:St G c w s)(hf:CF c w fr tmps.toList)(h:I5 P s fn fr=some v):∃u,(results fn tmps).run P w=.ok u w/\Rp c w v u:=by
 unfold I5 at h;cases hl:QZ P s fr fn.results.toList with
 |none=>rw[hl] at h;cases h
 |some as=>
  rw[hl] at h;obtain⟨us,hus,hrs⟩:=qC hs hf _ hl;have hlen:=hrs.len
  have dM:(results fn tmps).run P w=.ok (if h:us.toArray.size=1 then us.toArray[0] else .tuple us.toArray) w:=by rw[V9,bhQ];simp only[bbA,Sem.run_map,hus,baZ,bcG]
  rw[dM];split at h;rename_i a QT;cases QT;cases h;cases hrs with|cons h1 t=>cases t;exact⟨_,rfl,h1⟩
  rename_i as' hne QT;cases QT;cases h
  have:¬us.toArray.size=1:=by intro h1;simp at h1;obtain⟨a,ha⟩:=List.length_eq_one_iff.1 (hlen.symm.trans h1);exact hne a ha
  rw[dif_neg this];exact⟨_,rfl,.DW hrs⟩;rename_i QT;cases QT
end AI
namespace AI
open Go Go.RowKit
def qM(L:Nat->Bool):Nat->Nat
 |0=>0
 |n+1=>qM L n+if L n then 0 else 1
def qP{L:Nat->Bool}:∀(n:Nat),qM L n=0->∀i,i < n->L i=true:=by
 intro n
 induction n with
 |zero=>intro _ i hi;omega
 |succ n ih=>
  intro h i hi;simp only[qM] at h;by_cases hn:i=n;subst hn;by_cases hL:L i=true;exact hL;simp[hL] at h;exact ih (by omega) i (by omega)
def abK{L M:Nat->Bool}{i:Nat}(h0:L i=false)(h1:M i=true)(hne:∀j,j≠i->M j=L j):∀(n:Nat),(i < n->qM L n=qM M n+1)/\(n<=i->qM L n=qM M n):=by
 intro n
 induction n with
 |zero=>exact⟨λh=>by omega,λ_=>rfl⟩
 |succ n ih=>
  refine⟨λh=>?_,λh=>?_⟩;simp only[qM];by_cases hn:n=i;subst hn;rw[ih.2 (aHT _),h0,h1];simp;rw[ih.1 (by omega),hne n hn];omega;simp only[qM];rw[ih.2 (by omega),hne n (by omega)]
def aaF{ops:Array Oper}{N4:Nat->AS}(hq:∀i o,ops[i]?=some o->calm o.op=true->N4 (i+1)=N4 i){x:Nat}:∀(y:Nat),x<=y->y<=ops.size->(∀m,x<=m->m < y->¬eE ops m)->N4 x=N4 y:=by
 intro y
 induction y with
 | zero=>intro h _ _;have:x=0:=by omega
         subst this;rfl
 |succ y ih=>
  intro h hn hl;by_cases e:x=y+1;subst e;rfl;rw[ih (by omega) (by omega) (λm h1 h2=>hl m h1 (by omega))];have ho:ops[y]?=some (ops[y]'(by omega)):=bcU (by omega);have hy:=hl y (by omega) (by omega);refine(hq y _ ho ?_).symm;cases hqq:calm (ops[y]'(by omega)).op with|true=>rfl|false=>exact absurd ⟨_,ho,hqq⟩ hy
def mem_ready{ops:Array Oper}{L:Array Bool}(hsz:L.size=ops.size){i:Nat}(h:i∈bgO .any ops L):∃o,ops[i]?=some o/\L.getD i false=false/\Met (λj=>L.getD j false) o/\i < ops.size:=by
 unfold bgO at h;rw[bkS,bcZ,aUR] at h;obtain⟨h1,h2,h3⟩:=h;have ho:ops[i]?=some (ops[i]'h1):=bcU h1;refine⟨_,ho,?_,λe he hb=>?_,h1⟩;have:i < L.size:=by omega
 simpa[this] using h2
 rw[ho] at h3;simp only[bbB,bfP] at h3;rw[bdZ] at h3;have:=h3 e he;rw[hb] at this;simpa using this
def uC{ops:Array Oper}{L:Array Bool}(hsz:L.size=ops.size){i:Nat}{o:Oper}(ho:ops[i]?=some o)(hL:L.getD i false=false)(hm:Met (λj=>L.getD j false) o):i∈bgO .any ops L:=by
 have h1:=(aHQ.1 ho).1;unfold bgO;rw[bkS,bcZ,aUR];refine⟨h1,?_,?_⟩;have:i < L.size:=by omega
 simpa[this] using hL
 rw[ho];simp only[bbB,bfP];rw[bdZ];intro e he;by_cases hb:bgN .any e=true;have:=hm e he hb;rw[hb];simpa using this
 simp[hb]
section
variable {P:Program}{G:AP}{ops:Array Oper}{f0:List AV}{vals:Nat->AV}{N4:Nat->AS}
structure Inv(G:AP)(ops:Array Oper)(f0:List AV)(vals:Nat->AV)(N4:Nat->AS)(vS:Cx)(w0:World)(nh:Nat)(L:Array Bool)(a:Act)(w:World):Prop where
 size:L.size=ops.size
 closed:OM ops.toList (λj=>L.getD j false)
 st:∃c k,k<=ops.size/\(∀l,eE ops l->(L.getD l false=true↔l < k))/\Ext vS w0 c w/\St G c w (N4 k)/\CF c w (IL f0 (B8 ops) vals (λj=>L.getD j false) ops.size) a.tmps.toList /\
  ∀j y,ops[j]?=some y->BQ y.op=true->L.getD j false=false->rk ops j < nh->c.CG[vS.CG.length+rk ops j]?=some none
 defers:a.defers=[]
def looks{x y:Oper}{t:Nat}(hx:x.dst=some t)(hy:t∈y.looksAt ops):Q5 ops x y=true:=by simp[Q5,hx,hy]
def aJZ{x y:Oper}{t:Nat}(hx:t∈x.looksAt ops)(hy:y.dst=some t):Q5 ops x y=true:=by simp[Q5,hx,hy]
def aSV{x y:Oper}{t:Nat}(hx:x.dst=some t)(hy:y.dst=some t):Q5 ops x y=true:=by simp[Q5,hx,hy]
def acK{x y:Oper}(hx:calm x.op=false)(hy:calm y.op=false):Q5 ops x y=true:=by simp[Q5,hx,hy]
def B5{i:Nat}{o:Oper}(h:ops[i]?=some o):ops.toList[i]?=some o:=by rw[bbE];exact h
def X2{L:Nat->Bool}(Hz:Nb ops=true)(hc:OM ops.toList L){i j:Nat}{x y:Oper}(hx:ops[i]?=some x)(hy:ops[j]?=some y)(hm:Met L y)(hlt:i < j)(Ib:Q5 ops x y=true):L i=true :=
 cF hc (B5 hy) hm (lA Hz hx hy hlt Ib)
def RS{L:Nat->Bool}(Hz:Nb ops=true)(hc:OM ops.toList L){i j:Nat}{x y:Oper}(hx:ops[i]?=some x)(hy:ops[j]?=some y)(hL:L i=false)(hlt:i < j)(Ib:Q5 ops x y=true):L j=false:=by
 cases h:L j with
 |false=>rfl
 |true=>
  have:=cF hc (B5 hy) (hc j y (B5 hy) h) (lA Hz hx hy hlt Ib);rw[hL] at this;cases this
def xG{i t:Nat}(h:B8 ops i=some t):∃o,ops[i]?=some o/\o.dst=some t:=by unfold B8 at h;cases ho:ops[i]? with|none=>rw[ho] at h;cases h|some o=>rw[ho] at h;exact⟨o,rfl,by simpa using h⟩
def Ur{L:Nat->Bool}(Hz:Nb ops=true)(hc:OM ops.toList L){i:Nat}{o:Oper}(ho:ops[i]?=some o)(hL:L i=false)(hm:Met L o){t:Nat}(ht:t∈o.looksAt ops) :
   (IL f0 (B8 ops) vals L ops.size)[t]?=(IL f0 (B8 ops) vals (λ_=>true) i)[t]?:=by
 have hi:=(aHQ.1 ho).1;rw[abP (j:=i) ops.size (by omega)];refine cR i (λj hj hd=>?_);obtain⟨x,hx,hxd⟩:=xG hd;exact X2 Hz hc hx ho hm hj (looks hxd ht);intro j hj _ hd;by_cases e:j=i;subst e;exact hL;obtain⟨y,hy,hyd⟩:=xG hd;exact RS Hz hc ho hy hL (by omega) (aJZ ht hyd)
def abQ{L M:Nat->Bool}(Hz:Nb ops=true)(hc:OM ops.toList L){i:Nat}{o:Oper}(ho:ops[i]?=some o)(hL:L i=false)(hM:M i=true)(hne:∀j,j≠i->M j=L j) :
   IL f0 (B8 ops) vals M ops.size=JD (IL f0 (B8 ops) vals L ops.size) o.dst (vals i):=by
 have hi:=(aHQ.1 ho).1;have hdi:B8 ops i=o.dst:=by unfold B8;rw[ho];rfl
 apply beZ;intro t;by_cases hd:o.dst=some t;rw[abP (j:=i+1) ops.size (by omega)];simp only[IL,hM,if_true,hdi,hd];rw[PT,PT,aO,aO];intro j hj _ hdj;obtain⟨y,hy,hyd⟩:=xG hdj;rw[hne j (by omega)];exact RS Hz hc ho hy hL (by omega) (aSV hd hyd);rw[Tl hd];refine cR ops.size (λj _ hdj=>hne j (λe=>hd ?_));rw[<- hdi,<- e];exact hdj
def Ext.aHI{c:Cx}{w:World}{c':Cx}{w':World}(h:Ext c w c' w'){id:Nat}{y:Option Nat}(e:c.CG[id]?=some y):c'.CG[id]?=some y:=by obtain⟨t,ht⟩:=h.CG;rw[<- ht,aUY (aHS.1 e).1];exact e
def akY{nh:Nat}(Hz:Nb ops=true)
   (hl:∀i o,ops[i]?=some o->calm o.op=false->Sound P G (.op ops o (IL f0 (B8 ops) vals (λ_=>true) i) (N4 i) (.ret (vals i)) (N4 (i+1))))
   (hq:∀i o,ops[i]?=some o->quiet o.op=true->N4 (i+1)=N4 i/\((Cp ops (IL f0 (B8 ops) vals (λ_=>true) i) o=false/\vals i=.sc undef)\/(Cp ops (IL f0 (B8 ops) vals (λ_=>true) i) o=true/\∀k,k<=ops.size->Win ops i k->RJ P G (IL f0 (B8 ops) vals (λ_=>true) i) (N4 k) o=some (.val (vals i) (N4 k)))))
   (vS:Cx) (w0:World)
   (ha:∀i o e,ops[i]?=some o->o.op=.alloc e->N4 (i+1)=N4 i/\((Cp ops (IL f0 (B8 ops) vals (λ_=>true) i) o=false/\vals i=.sc undef)\/(Cp ops (IL f0 (B8 ops) vals (λ_=>true) i) o=true/\∃z,LA P e=some z/\rk ops i < nh/\vals i=.ptr (vS.CG.length+rk ops i) 0/\∀k,k<=ops.size->Win ops i k->(N4 k).get (vS.CG.length+rk ops i)=some (.cells (cellsOf z)))))
   (Q:Exit->Act->World->Prop) (hQ:∀e' a' w',U8 G vS w0 .normal (IL f0 (B8 ops) vals (λ_=>true) ops.size) (N4 ops.size) e' a' w'->Q e' a' w'):
   ∀(fuel:Nat)(L:Array Bool)(a:Act)(w:World),Inv G ops f0 vals N4 vS w0 nh L a w->qM (λj=>L.getD j false) ops.size=fuel->wpAny P .any ops Q fuel L a w:=by
 have hqs:∀i o,ops[i]?=some o->calm o.op=true->N4 (i+1)=N4 i:=λi o h1 h2=>by
  rcases cC h2 with h2 | ⟨e,h2⟩
  exact(hq i o h1 h2).1;exact(ha i o e h1 h2).1
 have fin:∀(L:Array Bool)(a:Act)(w:World),Inv G ops f0 vals N4 vS w0 nh L a w->(∀i,i < ops.size->L.getD i false=true)->Q .normal a w:=by
  intro L a w hI GC;obtain⟨c,k,hk,hlk,hx,E5,Qq,_⟩:=hI.st;have aWK:N4 k=N4 ops.size:=aaF hqs ops.size hk (aHT _) (λm h1 h2 hm=>by have:=(hlk m hm).1 (GC m h2);omega);rw[aWK] at E5;refine hQ _ _ _ ⟨c,hx,E5,hI.defers,rfl,?_⟩
  have:IL f0 (B8 ops) vals (λj=>L.getD j false) ops.size=IL f0 (B8 ops) vals (λ_=>true) ops.size:=by apply beZ;intro t;exact cR ops.size (λi hi _=>GC i hi)
  rw[<- this];exact Qq
 intro fuel
 induction fuel with
 |zero=>
  intro L a w hI hc;have GC:=qP ops.size hc;refine⟨?_,fin L a w hI GC⟩;apply List.eq_nil_iff_forall_not_mem.2;intro i hi;obtain⟨o,ho,h1,_,hlt⟩:=mem_ready hI.size hi;have:=GC i hlt;rw[h1] at this;cases this
 |succ fuel ih=>
  intro L a w hI aVE;refine⟨λnP=>fin L a w hI (λi=>?_),λi hi=>?_⟩
  ·induction i using Nat.strongRecOn with
   |_ i ihi=>
    intro hlt;cases pL:L.getD i false with
    |true=>rfl
    |false=>
     exfalso;have ho:ops[i]?=some (ops[i]'hlt):=bcU hlt
     have:=uC hI.size ho pL (λe he hb=>by
      have h1:=sV Hz ho he hb;exact ihi e.on h1 (by omega))
     rw[nP] at this;cases this
  ·obtain⟨o,ho,pL,dI,hlt⟩:=mem_ready hI.size hi
   obtain⟨c,k,hk,hlk,hx,E5,Qq,xP⟩:=hI.st
   have hMi:(L.setIfInBounds i true).getD i false=true:=by
    have:i < L.size:=by rw[hI.size];exact hlt
    simp[this]
   have hMn:∀j,j≠i->(L.setIfInBounds i true).getD j false=L.getD j false:=by intro j hj;simp only[bcL];rw[bfC (λe=>hj e.symm)]
   have hle:∀j,L.getD j false=true->(L.setIfInBounds i true).getD j false=true:=by intro j hj;by_cases e:j=i;subst e;exact hMi;rw[hMn j e];exact hj
   have dA:OM ops.toList (λj=>(L.setIfInBounds i true).getD j false):=by
    intro j y hy hj e he hb;by_cases ej:j=i;subst ej;rw[B5 ho] at hy;cases hy;exact hle _ (dI e he hb);have hj2:L.getD j false=true:=by rw[<- hMn j ej];exact hj
    exact hle _ (hI.closed j y hy hj2 e he hb)
   have amR:qM (λj=>(L.setIfInBounds i true).getD j false) ops.size=fuel:=by have:=(abK (L:=λj=>L.getD j false) (M:=λj=>(L.setIfInBounds i true).getD j false) pL hMi hMn ops.size).1 hlt;omega
   have aIN:=abQ (f0:=f0) (vals:=vals) (L:=λj=>L.getD j false) (M:=λj=>(L.setIfInBounds i true).getD j false) Hz hI.closed ho pL hMi hMn
   have aDZ:∀(k':Nat)(u:Value)(w':World)(c':Cx),k'<=ops.size->(∀l,eE ops l->((L.setIfInBounds i true).getD l false=true↔l < k'))->Ext vS w0 c' w'->Mon c w c' w' ->
    (∀j y,ops[j]?=some y->BQ y.op=true->(L.setIfInBounds i true).getD j false=false->rk ops j < nh->c'.CG[vS.CG.length+rk ops j]?=some none)->St G c' w' (N4 k')->Rp c' w' (vals i) u->wpAny P .any ops Q fuel (L.setIfInBounds i true) (a.put o.dst u) w':=by
    intro k' u w' c' OV nO dN hm' hh' Qu hu;refine ih _ _ _ ⟨by simp[hI.size],dA,⟨c',k',OV,nO,dN,Qu,?_,hh'⟩,by cases o.dst<;>exact hI.defers⟩ amR
    rw[aIN];exact Ui (Qq.Dx hm') hu
   have step:∀(k':Nat)(u:Value)(w':World)(c':Cx),k'<=ops.size->(∀l,eE ops l->((L.setIfInBounds i true).getD l false=true↔l < k'))->Ext c w c' w'->St G c' w' (N4 k')->Rp c' w' (vals i) u->wpAny P .any ops Q fuel (L.setIfInBounds i true) (a.put o.dst u) w':=by
    intro k' u w' c' OV nO dN Qu hu;refine aDZ k' u w' c' OV nO (hx.trans dN) dN.sN (λj y hy nX hj hjn=>?_) Qu hu;have hji:j≠i:=λe=>by subst e;rw[hMi] at hj;cases hj
    rw[hMn j hji] at hj;exact dN.aHI (xP j y hy nX hj hjn)
   have rY:∀x∈o.op.operands,iB G c w (IL f0 (B8 ops) vals (λ_=>true) i) a.eval x:=by
    intro x hxo v hv;cases x with
    |tmp t=>
     have anJ:t∈o.looksAt ops:=by unfold biO;rw[bcE];left;rw[List.mem_filterMap];exact⟨.tmp t,bdU.2 hxo,rfl⟩
     have he:=Ur (f0:=f0) (vals:=vals) Hz hI.closed ho pL dI anJ
     have:A3 G (IL f0 (B8 ops) vals (λj=>L.getD j false) ops.size) (.tmp t)=some v:=by rw[<- hv];simp only[A3,bcR,he]
     exact GA E5 Qq this
    |const z=>exact GA (fr:=IL f0 (B8 ops) vals (λj=>L.getD j false) ops.size) E5 Qq hv
    |global g=>exact GA (fr:=IL f0 (B8 ops) vals (λj=>L.getD j false) ops.size) E5 Qq hv
    |func f=>exact GA (fr:=IL f0 (B8 ops) vals (λj=>L.getD j false) ops.size) E5 Qq hv
   have Zb:Cp ops (IL f0 (B8 ops) vals (λ_=>true) i) o=bdX o (yielded ops a.tmps):=by refine OO (c:=c) (w:=w) (λj want hg d hd=>⟨_,Qq,?_⟩);refine Ur Hz hI.closed ho pL dI ?_;unfold biO;rw[bcE];right;rw[hg];simp[hd]
   have nF:PH P ops o (wpAny P .any ops Q fuel (L.setIfInBounds i true)) Q a w->wpOp P ops Q i (wpAny P .any ops Q fuel (L.setIfInBounds i true)) a w:=by intro h;unfold wpOp;rw[ho];unfold PH at h;simp only;split;rename_i hw;rw[if_pos hw] at h;exact .inl h;rename_i hw;rw[if_neg hw] at h;exact h
   refine nF ?_;cases hqo:calm o.op with
   |false=>
    have hki:N4 k=N4 i:=by
     rcases Nat.le_total k i with aIJ | aIJ
     exact aaF hqs i aIJ (by omega) (λm h1 h2 hm=>by
      obtain⟨y,hy,hyq⟩:=hm;have:=X2 Hz hI.closed hy ho dI h2 (acK hyq hqo);have:=(hlk m ⟨y,hy,hyq⟩).1 this;omega)
     exact(aaF hqs k aIJ hk (λm h1 h2 hm=>by
      obtain⟨y,hy,hyq⟩:=hm;have hLm:=(hlk m ⟨y,hy,hyq⟩).2 h2;by_cases e:m=i;subst e;rw[pL] at hLm;cases hLm;have:=RS Hz hI.closed ho hy pL (by omega) (acK hqo hyq);rw[this] at hLm;cases hLm)).symm
    rw[hki] at E5;refine hl i o ho hqo c w a _ _ E5 rY Zb ?_;intro u w' c' dN Qu hu;refine step (i+1) u w' c' (by omega) (λl hl'=>?_) dN Qu hu;by_cases e:l=i;subst e;rw[hMi];simp;rw[hMn l e,hlk l hl'];obtain⟨y,hy,hyq⟩:=hl';constructor;intro hlt';have hLl:=(hlk l ⟨y,hy,hyq⟩).2 hlt';rcases bdS l i with h1 | h1
    omega;have:=RS Hz hI.closed ho hy pL (by omega) (acK hqo hyq);rw[this] at hLl;cases hLl;intro hlt';have:=X2 Hz hI.closed hy ho dI (by omega) (acK hyq hqo);exact(hlk l ⟨y,hy,hyq⟩).1 this
   |true=>
    have nO:∀l,eE ops l->((L.setIfInBounds i true).getD l false=true↔l < k):=by
     intro l hl'
     have hne:l≠i:=by intro e;subst e;obtain⟨y,hy,hyq⟩:=hl';rw[ho] at hy;cases hy;rw[hqo] at hyq;cases hyq
     rw[hMn l hne];exact hlk l hl'
    have iN:Win ops i k:=by
     refine⟨λl hl' hd=>?_,λl hl' hd=>?_⟩;exact(hlk l hl').1 (cF hI.closed (B5 ho) dI hd);rcases bdS l k with h1 | h1
     exfalso;have hLl:=(hlk l hl').2 h1;obtain⟨y,hy,hyq⟩:=hl';have:=cF hI.closed (B5 hy) (hI.closed l y (B5 hy) hLl) hd;rw[pL] at this;cases this;exact h1
    unfold PH;rcases cC hqo with hqo | ⟨e,hoe⟩
    obtain⟨_,Vf⟩:=hq i o ho hqo;rcases Vf with ⟨hw,hv⟩ | ⟨hw,hv⟩
    rw[<- Zb,hw];simp only[bbC,if_false];exact step k undef w c hk nO (Ext.refl c w) E5 (by rw[hv];exact .sc rfl);rw[<- Zb,hw];simp only[if_true];have aPX:=mL E5 rY (λ_=>rfl) (hv k hk iN);obtain⟨u,w',c',hr,dN,Qu,hu⟩:=aPX;unfold bhK;rcases hr with hr | ⟨hr,rfl⟩
    rw[hr];exact step k u w' c' hk nO dN Qu hu;rw[hr];exact step k undef w' c' hk nO dN Qu hu;obtain⟨_,Vf⟩:=ha i o e ho hoe;rcases Vf with ⟨hw,hv⟩ | ⟨hw,z,hz,hrk,hv,aPY⟩
    rw[<- Zb,hw];simp only[bbC,if_false];exact step k undef w c hk nO (Ext.refl c w) E5 (by rw[hv];exact .sc rfl);rw[<- Zb,hw];simp only[if_true];have hia:BQ o.op=true:=by rw[hoe];rfl
    obtain⟨u,w',c',hr,hm',Qu,hu,aVH,aVZ⟩:=wO (ρ:=a.eval) E5 hoe hz (xP i o ho hia pL hrk) (aPY k hk iN);unfold bhK;rw[hr];refine aDZ k u w' c' hk nO (aVH vS w0 hx (by omega)) hm' (λj y hy nX hj hjn=>?_) Qu (by rw[hv];exact hu);have hji:j≠i:=λe=>by subst e;rw[hMi] at hj;cases hj
    rw[hMn j hji] at hj;have hne:rk ops j≠rk ops i:=λe=>hji (aLD hy ho nX hia e);rw[aVZ _ (by omega)];exact xP j y hy nX hj hjn
end
end AI
namespace AI
open Go Go.RowKit
def oJ{G:AP}{c:Cx}{w:World}{s:AS}{fr:List AV}{a:Act}(hs:St G c w s)(hf:CF c w fr a.tmps.toList)(x:Operand):iB G c w fr a.eval x:=λ_ hv=>GA hs hf hv
def RF{P:Program}{ops:Array Oper}{o:Oper}{i:Nat}{l:List Nat}{Q:Exit->Act->World->Prop}{a:Act}{w:World}(ho:ops[i]?=some o)(h:PH P ops o (wpOps P ops Q l) Q a w):wpOps P ops Q (i::l) a w:=by unfold wpOps;rw[ho];unfold PH at h;simp only;split;rename_i hw;rw[if_pos hw] at h;exact .inl h;rename_i hw;rw[if_neg hw] at h;exact h
def U8.kT{G:AP}{c:Cx}{w:World}{e:AX}{Cj:List AV}{s':AS}{e':Exit}{a':Act}{w':World}(h:U8 G c w e Cj s' e' a' w')(he:e≠.normal):e'≠.normal:=by obtain⟨c',_,_,_,h4⟩:=h;cases e with|normal=>exact absurd rfl he|exit id=>intro h5;rw[h4.1] at h5;cases h5|ret=>intro h5;rw[h4.1] at h5;cases h5|pan v=>obtain⟨u,h5,_⟩:=h4;intro h6;rw[h5] at h6;cases h6
def vC{K:Act->World->Prop}{Q:Exit->Act->World->Prop}{e:Exit}{a:Act}{w:World}(he:e≠.normal)(h:Q e a w):Exit.then K Q e a w:=by cases e<;>first | exact absurd rfl he | exact h
structure aCA(P:Program)(G:AP)(X:XX)(H:Vp):Prop where
 mixed:P.follows .mixedOrders=true
 ext:∀f args s r s',X f args s r s'->Sound P G (.call f args s r s')
 aIK:∀f args g cS k,H f args=some (g,cS,k)->∀s r s' r',Sound P G (.call g cS s r s')->k r=some r'->Sound P G (.call f args s r' s')
def sound{P:Program}{G:AP}{X:XX}{H:Vp}(hg:aCA P G X H){jd:Jd}(h:J P G X H jd):Sound P G jd:=by
 induction h with
 |sem h=>exact h hg.mixed
 |atV hw _ ih=>intro cx w a Q hs hf hd hQ;obtain⟨c2,x,h1,h2⟩:=hw cx w _ hs hf;exact ih c2 w a Q h1 h2 hd (λe a w hp=>hQ e a w (hp.ext x))
 |aEK hw _ ih=>obtain⟨n,ih⟩:=ih;exact⟨n,λcx w a Q hs hf hd hQ=>by obtain⟨c2,x,h1,h2⟩:=hw cx w _ hs hf;exact ih c2 w a Q h1 h2 hd (λe a w hp=>hQ e a w (hp.ext x))⟩
 |yW _ _ hv ih=>
  intro cx w a K Q hs Je hwa hK;exact ih cx w a K Q hs Je hwa (λu w' c' x st hu=>hK u w' c' x st (hv _ _ _ hu))
 |oI _ _ hv ih=>
  intro cx w a K Q hs Je hwa hK;exact ih cx w a K Q hs Je hwa (λu w' c' x st hu=>hK u w' c' x (hv _ _ st) hu)
 |@scope c fr G5 Cj s s2 s' e _ he hsc ih=>
  intro cx w a Q hs hf hd hQ;refine ih cx w a Q hs hf hd ?_;rintro e' a' w' ⟨c',hx,hs',Y6,h4⟩;cases e with
  |normal=>obtain⟨rfl,h5⟩:=h4;obtain⟨c2,x2,XV,f2⟩:=hsc cx w c' w' _ hx hs hs' h5;exact hQ _ _ _ ⟨c2,x2,XV,Y6,rfl,f2⟩
  |exit id=>obtain⟨rfl,h5⟩:=h4;obtain⟨c2,x2,XV,f2⟩:=hsc cx w c' w' _ hx hs hs' h5;exact hQ _ _ _ ⟨c2,x2,XV,Y6,rfl,f2⟩
  |ret=>obtain⟨rfl,h5⟩:=h4;obtain⟨c2,x2,XV,f2⟩:=hsc cx w c' w' _ hx hs hs' h5;exact hQ _ _ _ ⟨c2,x2,XV,Y6,rfl,f2⟩
  |pan v=>exact absurd rfl (he v)
 |@alX c fr Cj s s' e _ ih=>
  intro cx w a Q hs hf hd hQ;refine wp_scope_straight (ih cx w a _ hs hf hd ?_);intro e' a' w' hp;have hq:=hQ _ _ _ hp;obtain⟨c',_,_,_,h4⟩:=hp;cases e with|normal=>rw[h4.1] at hq ⊢;exact hq|exit id=>rw[h4.1] at hq ⊢;exact hq|ret=>rw[h4.1] at hq ⊢;exact hq|pan v=>obtain⟨u,h5,_⟩:=h4;rw[h5] at hq ⊢;exact hq
 |label=>intro cx w a Q hs hf hd hQ;exact wp_label (hQ _ _ _ ⟨cx,Ext.refl _ _,hs,hd,rfl,hf⟩)
 |skip=>intro cx w a Q hs hf hd hQ;exact wp_skip (hQ _ _ _ ⟨cx,Ext.refl _ _,hs,hd,rfl,hf⟩)
 |exit=>intro cx w a Q hs hf hd hQ;exact wp_exit (hQ _ _ _ ⟨cx,Ext.refl _ _,hs,hd,rfl,hf⟩)
 |ret=>intro cx w a Q hs hf hd hQ;exact wp_ret (hQ _ _ _ ⟨cx,Ext.refl _ _,hs,hd,rfl,hf⟩)
 |seq _ _ yD ih2=>
  intro cx w a Q hs hf hd hQ;refine wp_seq (yD cx w a _ hs hf hd ?_);rintro e' a' w' ⟨c',hx,hs',Y6,rfl,iK⟩;exact ih2 c' w' a' Q hs' iK Y6 (λe2 a2 w2 h2=>hQ e2 a2 w2 (h2.ext hx))
 |aaC _ he yD=>
  intro cx w a Q hs hf hd hQ;refine wp_seq (yD cx w a _ hs hf hd ?_);intro e' a' w' hp;exact vC (hp.kT he) (hQ _ _ _ hp)
 |@cond q x y t fr Cj s s' e hq _ ih=>
  intro cx w a Q hs hf hd hQ;have hr:=GA hs hf hq
  have Je:a.eval q=.bool t:=by generalize a.eval q=v at hr;cases hr;rfl
  exact wp_cond Je (ih cx w a Q hs hf hd hQ)
 |@block id c fr Cj s s' e _ ih=>
  intro cx w a Q hs hf hd hQ;refine wp_block (ih cx w a _ hs hf hd ?_);rintro e' a' w' ⟨c',hx,hs',Y6,h4⟩;cases e with
  |normal=>obtain⟨rfl,h5⟩:=h4;exact hQ _ _ _ ⟨c',hx,hs',Y6,rfl,h5⟩
  |exit SI=>
   obtain⟨rfl,h5⟩:=h4;show if SI=id then Q .normal a' w' else Q (.exit SI) a' w'
   by_cases hid:SI=id;rw[if_pos hid];refine hQ _ _ _ ⟨c',hx,hs',Y6,?_⟩;simp only[FR,hid,if_true];exact⟨trivial,h5⟩;rw[if_neg hid];refine hQ _ _ _ ⟨c',hx,hs',Y6,?_⟩;simp only[FR,hid,if_false];exact⟨trivial,h5⟩
  |ret=>obtain⟨rfl,h5⟩:=h4;exact hQ _ _ _ ⟨c',hx,hs',Y6,rfl,h5⟩
  |pan v=>obtain⟨u,rfl,h5⟩:=h4;exact hQ _ _ _ ⟨c',hx,hs',Y6,u,rfl,h5⟩
 |loop _ ih=>
  intro cx w a Q hs hf hd hQ;obtain⟨n,hn⟩:=ih;exact wp_loop_rounds n (hn cx w a Q hs hf hd hQ)
 |aoQ _ _ yD ih2=>
  obtain⟨n,hn⟩:=ih2;refine⟨n+1,?_⟩;intro cx w a Q hs hf hd hQ;rw[rounds_succ];refine yD cx w a _ hs hf hd ?_;rintro e' a' w' ⟨c',hx,hs',Y6,rfl,iK⟩;exact hn c' w' a' Q hs' iK Y6 (λe2 a2 w2 h2=>hQ e2 a2 w2 (h2.ext hx))
 |eD _ he yD=>
  refine⟨1,?_⟩;intro cx w a Q hs hf hd hQ;rw[rounds_succ];refine yD cx w a _ hs hf hd ?_;intro e' a' w' hp;exact vC (hp.kT he) (hQ _ _ _ hp)
 |region _ ih=>
  intro cx w a Q hs hf hd hQ;exact wp_region (ih cx w a Q hs hf hd hQ)
 |apT=>intro cx w a Q hs hf hd hQ;exact hQ _ _ _ ⟨cx,Ext.refl _ _,hs,hd,rfl,hf⟩
 |@acT ops i l o v fr Cj s s1 s' e ho _ _ yD ih2=>
  intro cx w a Q hs hf hd hQ;refine RF ho (yD cx w a _ _ hs (λx _=>oJ hs hf x) (OO (c:=cx) (w:=w) (λ_ _ _ _ _=>⟨fr,hf,rfl⟩)) ?_);intro u w' c' hx hs' hu;exact ih2 c' w' (a.put o.dst u) Q hs' (Ui (hf.mono hx) hu) (by cases o.dst<;>exact hd) (λe2 a2 w2 h2=>hQ e2 a2 w2 (h2.ext hx))
 |@apU ops i l o v fr s s1 ho _ yD=>
  intro cx w a Q hs hf hd hQ;refine RF ho (yD cx w a _ _ hs (λx _=>oJ hs hf x) (OO (c:=cx) (w:=w) (λ_ _ _ _ _=>⟨fr,hf,rfl⟩)) ?_);intro u w' c' hx hs' hu;exact hQ _ _ _ ⟨c',hx,hs',hd,u,rfl,hu⟩
 |@O1 ops o fr s s' v hw h=>
  intro cx w a K Q hs Je hwa hK;unfold PH;rw[<- hwa,hw];simp only[if_true];obtain⟨u,w',c',hr,hx,hs',hu⟩:=mL hs Je (λ_=>rfl) h;unfold bhK;rcases hr with hr | ⟨hr,rfl⟩
  rw[hr];exact hK u w' c' hx hs' hu;rw[hr];exact hK undef w' c' hx hs' hu
 |@apQ ops o fr s s' cl x y t tx a b v hw ho Ib hxs DK ha hb h=>
  intro cx w ac K Q hs Je hwa hK;unfold PH;rw[<- hwa,hw];simp only[if_true];have e1:cl.args=#[x,y]:=by apply bbW;rw[hxs]
  have e2:cl.argTypes=#[t,tx]:=by apply bbW;rw[DK]
  have WW:∀z∈[x,y],z∈o.op.operands:=λz hz=>by rw[ho];simp only[bbF,bjL,e1,beT];exact .inr (by simpa using hz)
  obtain⟨u,w',c',hr,hx,hs',hu⟩:=h cx w _ _ o.type hs (Je x (WW x (by simp)) a ha) (Je y (WW y (by simp)) b hb);unfold bhK
  have hr2:(execOp ac.eval o).run P w=.ok (.value u) w':=by simp[execOp,ho,resolve,Ib,e1,e2,invoke,builtin,hr]
  rw[hr2];exact hK u w' c' hx hs' hu
 |@yU ops o fr s hw=>
  intro cx w a K Q hs Je hwa hK;unfold PH;rw[<- hwa,hw];simp only[bbC,if_false];exact hK undef w cx (Ext.refl _ _) hs (.sc rfl)
 |@TQ ops o fr s s' f args r hw h _ ih=>
  intro cx w a K Q hs Je hwa hK;unfold PH;rw[<- hwa,hw];simp only[if_true];obtain⟨vs,hr,H5⟩:=mL hs Je (λ_=>rfl) h;unfold bhK;rw[hr];refine(ih cx w vs hs H5).mono ?_;rintro e w' ⟨c',hx,hs',h4⟩;cases r with
  |ret v=>obtain⟨u,rfl,hu⟩:=h4;exact hK u w' c' hx hs' hu
  |pan v=>obtain⟨u,rfl,hu⟩:=h4;exact hK u w' c' hx hs' hu
 |@aDN ops o fr s v hw h=>
  intro cx w a K Q hs Je hwa hK;unfold PH;rw[<- hwa,hw];simp only[if_true];obtain⟨u,hr,hu⟩:=mL hs Je (λ_=>rfl) h;unfold bhK;rw[hr];exact hK u w cx (Ext.refl _ _) hs hu
 |@draw id ops f0 s0 rs vals N4 h0 Hz hl hq ha ihl=>
  intro cx w a Q hs hf hd hQ;refine wp_region_any hg.mixed ?_;obtain⟨x,st⟩:=hs.same (Tt w);obtain⟨c2,x2,XV,SQ⟩:=st.holds rs;rw[<- h0] at XV;rw[hs.len] at ha;refine akY (nh:=rs.length) Hz ihl hq cx w ha Q hQ ops.size _ a _ ⟨by simp,?_,⟨c2,0,bcJ _,?_,x.trans x2,XV,?_,?_⟩,hd⟩ ?_;intro i o ho hL;exfalso;simp only[bcL,beF] at hL;split at hL<;>simp at hL
  intro l _;simp only[bcL,beF];split<;>simp
  ·have:IL f0 (B8 ops) vals (λj=>(bdG ops.size false).getD j false) ops.size=f0:=by
    have key:∀n,IL f0 (B8 ops) vals (λj=>(bdG ops.size false).getD j false) n=f0:=by
     intro n
     induction n with
     |zero=>rfl
     |succ n ih=>
      simp only[IL,ih];rw[if_neg];simp only[bcL,beF];split<;>simp
    exact key _
   rw[this];exact hf.mono (x.trans x2)
  intro j y _ _ _ hj;rw[SQ,bcF (by omega)];simp[List.getElem?_replicate];omega
  ·have key:∀n,qM (λj=>(bdG ops.size false).getD j false) n=n:=by
    intro n
    induction n with
    |zero=>rfl
    |succ n ih=>
     simp only[qM,ih]
     have:(bdG ops.size false).getD n false=false:=by simp only[bcL,beF];split<;>simp
     simp only[this];simp
   exact key _
 |@body f fn c args Cj s s' s2 e v hf hb _ he hr hk ih=>
  intro cx w vs hs H5;have hl:=H5.len;refine calls_of_wp hf hb (ih cx w _ _ hs ?_ rfl ?_);simp only[bjH,biP];rw[bcW,hl];exact H5.append (CF.replicate (.sc rfl) _);rintro e' a' w' ⟨c',hx,hs',Y6,h4⟩
  have kG:St G c' w' s2:=by
   rcases hk with rfl | rfl
   exact hs'.cut _;exact hs'
  rcases he with rfl | rfl
  obtain⟨rfl,h5⟩:=h4;obtain⟨u,h6,h7⟩:=YW hs' h5 hr;exact⟨Y6,u,h6,c',hx,kG,u,rfl,h7⟩;obtain⟨rfl,h5⟩:=h4;obtain⟨u,h6,h7⟩:=YW hs' h5 hr;exact⟨Y6,u,h6,c',hx,kG,u,rfl,h7⟩
 |@YY f fn c args Cj s s' v hf hb _ ih=>
  intro cx w vs hs H5;have hl:=H5.len;refine calls_of_wp hf hb (ih cx w _ _ hs ?_ rfl ?_);simp only[bjH,biP];rw[bcW,hl];exact H5.append (CF.replicate (.sc rfl) _);rintro e' a' w' ⟨c',hx,hs',Y6,u,rfl,h5⟩;exact⟨Y6,c',hx,hs'.cut _,u,rfl,h5⟩
 |ext h=>exact hg.ext _ _ _ _ _ h
 |aIK hh _ hk ih=>exact hg.aIK _ _ _ _ _ hh _ _ _ _ ih hk
end AI
namespace AI
open Go Go.RowKit
def aGH:Value->Value->Bool
 |.int k a,.int k' b=>k == k'&&a == b
 |.bool a,.bool b=>a == b
 |.string a,.string b=>a.data.toList == b.data.toList
 |.nilIface,.nilIface=>true
 |.nilFunc,.nilFunc=>true
 |.pointer none,.pointer none=>true
 |.map none,.map none=>true
 |.tuple a,.tuple b=>a.size == 0&&b.size == 0
 |_,_=>false
def auN{a b:Value}(h:aGH a b=true):a=b:=by unfold aGH at h;split at h;simp at h;rw[h.1,h.2];simp at h;rw[h];simp only[beq_iff_eq] at h;rename_i x y;have:x=y:=ByteArray.ext (bbW h);rw[this];rfl;rfl;rfl;rfl;rename_i x y;simp at h;rw[h.1,h.2];cases h
mutual
def Vu:AV->AV->Bool
 |.sc a,.sc b=>aGH a b
 |.agg a,.agg b=>bY a b
 |.DW a,.DW b=>bY a b
 |.sl o n a,.sl p m b=>decide (o=p)&&n == m&&bY a b
 |.OG a b c,.OG x y z=>a == x&&b == y&&c == z
 |.el a,.el b=>bY a b
 |.ptr a b,.ptr x y=>a == x&&b == y
 |.fn f a b,.fn g x y=>decide (f=g)&&bY a x&&bY b y
 |.ifc t a,.ifc u b=>t == u&&Vu a b
 |.mp a,.mp b=>a == b
 |_,_=>false
def bY:List AV->List AV->Bool
 |[],[]=>true
 |a::as,b::bs=>Vu a b&&bY as bs
 |_,_=>false
end
mutual
def abH:∀{a b:AV},Vu a b=true->a=b
 |.sc a,b,h=>by cases b<;>simp[Vu] at h;rw[auN h]
 |.agg a,b,h=>by cases b<;>simp[Vu] at h;rw[PU h]
 |.DW a,b,h=>by cases b<;>simp[Vu] at h;rw[PU h]
 |.sl o n a,b,h=>by cases b<;>simp[Vu] at h;rw[h.1.1,h.1.2,PU h.2]
 |.OG _ _ _,b,h=>by cases b<;>simp[Vu] at h;rw[h.1.1,h.1.2,h.2]
 |.el a,b,h=>by cases b<;>simp[Vu] at h;rw[PU h]
 |.ptr _ _,b,h=>by cases b<;>simp[Vu] at h;rw[h.1,h.2]
 |.fn f a c,b,h=>by cases b<;>simp[Vu] at h;rw[h.1.1,PU h.1.2,PU h.2]
 |.ifc t a,b,h=>by cases b<;>simp[Vu] at h;rw[h.1,abH h.2]
 |.mp _,b,h=>by cases b<;>simp[Vu] at h;rw[h]
 |.any,b,h=>by cases b<;>simp[Vu] at h
def PU:∀{a b:List AV},bY a b=true->a=b
 |[],b,h=>by cases b<;>simp[bY] at h;rfl
 |a::as,b,h=>by cases b<;>simp[bY] at h;rw[abH h.1,PU h.2]
end
def reads:Op->Bool
 |.load .. | .lookup ..=>true
 |.call cl=>(match cl.callee with|.builtin .len=>true|_=>false)
 |_=>false
def Yq{P:Program}{G:AP}{fr:List AV}{s:AS}{o:Oper}{r:AR}(hq:quiet o.op=true)(h:RJ P G fr s o=some r):∃v,r=.val v s:=by
 unfold RJ at h;split at h<;>rename_i ho<;>(try (rw[ho] at hq;simp[quiet] at hq;done))
 all_goals first
  |(obtain⟨v,_,rfl⟩:=map_some h;exact⟨_,rfl⟩)
  | (split at h
     all_goals first
      |(obtain⟨v,_,rfl⟩:=map_some h;exact⟨_,rfl⟩)
      |(cases h;done)
      |(cases h;exact⟨_,rfl⟩)
      | (split at h
         all_goals first
          |(cases h;done)
          |(cases h;exact⟨_,rfl⟩)))
  |(obtain⟨_,_,h2⟩:=bind_some h;obtain⟨v,_,rfl⟩:=map_some h2;exact⟨_,rfl⟩)
  | (rw[ho] at hq
     unfold U9 at h;split at h
     all_goals first
      |(obtain⟨_,_,h2⟩:=bind_some h;obtain⟨v,_,rfl⟩:=map_some h2;exact⟨_,rfl⟩)
      |(rename_i Ib;simp[quiet,Ib] at hq;done)
      | (split at h
         all_goals first
          |(obtain⟨v,_,rfl⟩:=map_some h;exact⟨_,rfl⟩)
          |(cases h;done))
      |(cases h;done))
  |(cases h;done)
def VX{P:Program}{G:AP}{fr:List AV}{s:AS}{o:Oper}{v:AV}{s':AS}(hq:quiet o.op=true)(hr:reads o.op=false)(h:RJ P G fr s o=some (.val v s'))(s2:AS):RJ P G fr s2 o=some (.val v s2):=by
 have e:=Yq hq h;obtain⟨v',e⟩:=e;injection e with e1 e2
 subst e1 e2;obtain⟨dst,op,ty,pos,after,guard⟩:=o;cases op<;>simp only[quiet,reads,bbC] at hq hr<;>simp only[RJ] at h ⊢
 all_goals first
  |(obtain⟨v',h1,h2⟩:=map_some h;injection h2 with h2;subst h2;rw[h1];rfl)
  |(obtain⟨q,h0,h2⟩:=bind_some h;obtain⟨v',h1,h3⟩:=map_some h2;injection h3 with h3;subst h3;rw[h0,TC,h1];rfl)
  | (split at h
     all_goals first
      |(obtain⟨v',h1,h2⟩:=map_some h;injection h2 with h2;subst h2;simp only[*,bbB];done)
      |(cases h;done)
      |(cases h;simp only[*];done)
      | (split at h
         all_goals first
          |(cases h;done)
          |(cases h;simp[*];done)))
  |(cases hr;done)
  | (rename_i cl
     unfold U9 at h ⊢;split at h
     all_goals first
      |(rename_i Ib;simp[Ib] at hr;done)
      |(rename_i Ib;simp[Ib] at hq;done)
      |(simp only;obtain⟨q,h0,h2⟩:=bind_some h;obtain⟨v',h1,h3⟩:=map_some h2;injection h3 with h3;subst h3;rw[h0,TC,h1];rfl)
      |(cases h;done))
end AI
namespace AI
open Go Go.RowKit
inductive Tk where
 |code (c:Code) (fr:List AV) (s:AS)
 |loop (c:Code) (fr:List AV) (s:AS)
 |ops (ops:Array Oper) (l:List Oper) (fr:List AV) (s:AS)
 |draw (ops:Array Oper) (l:List Oper) (fr:List AV) (s:AS) (q:Nat)
 |op (ops:Array Oper) (o:Oper) (fr:List AV) (s:AS)
 |call (f:FuncId) (args:List AV) (s:AS)
inductive Rs where
 |code (e:AX) (fr:List AV) (s:AS)
 |call (r:CR) (s:AS)
 |tr (l:List (List AV×AS×AV)) (fr:List AV) (s:AS)
abbrev aNV:=FuncId->List AV->AS->Option (CR×AS)
def Og:List Oper->Nat->List Nat
 |[],_=>[]
 |o::os,i=>if calm o.op then Og os (i+1) else i::Og os (i+1)
def atW(ms:List Nat)(ls:List Nat)(i k:Nat):Bool:=ls.all λl=>(!Um ms i l||decide (l < k))&&(!Um ms l i||decide (k<=l))
def adP(P:Program)(G:AP)(ms ls:List Nat)(i:Nat)(o:Oper)(fr:List AV)(v:AV):List AS->Nat->Bool
 |[],_=>true
 |s::ss,k=>(!atW ms ls i k||(match RJ P G fr s o with|some (.val u _)=>Vu u v|_=>false))&&adP P G ms ls i o fr v ss (k+1)
def adR(P:Program)(G:AP)(ops:Array Oper)(ms ls:List Nat)(N4:List AS):List Oper->List (List AV×AS×AV)->Nat->Bool
 |o::os,t::ts,i=>(!(quiet o.op&&reads o.op)||!Cp ops t.1 o||adP P G ms ls i o t.1 t.2.2 N4 0)&&adR P G ops ms ls N4 os ts (i+1)
 |_,_,_=>true
def bZ(ms ls:List Nat)(i id:Nat)(cs:List AV):List AS->Nat->Bool
 |[],_=>true
 |s::ss,k=>(!atW ms ls i k||(match s.get id with|some (.cells ds)=>bY ds cs|_=>false))&&bZ ms ls i id cs ss (k+1)
def Vs(P:Program)(ops:Array Oper)(ms ls:List Nat)(N4:List AS):List Oper->List (List AV×AS×AV)->Nat->Nat->Bool
 |o::os,t::ts,i,q=>(match o.op with
  |.alloc e=>(!Cp ops t.1 o||(match LA P e with|some z=>bZ ms ls i q (cellsOf z) N4 0|none=>false))&&Vs P ops ms ls N4 os ts (i+1) (q+1)
  |_=>Vs P ops ms ls N4 os ts (i+1) q)
 |_,_,_,_=>true
def rsv(P:Program):List Oper->Option (List AF)
 |[]=>some []
 |o::l=>(match o.op with
  |.alloc e=>(match LA P e,rsv P l with|some z,some r=>some (.cells (cellsOf z)::r)|_,_=>none)
  |_=>rsv P l)
def azO(P:Program)(G:AP)(ops:Array Oper)(tr:List (List AV×AS×AV))(sf:AS):Bool :=
 match Og ops.toList 0 with|[]=>true|ls=>adR P G ops (Im ops.toList []) ls (tr.map (·.2.1)++[sf]) ops.toList tr 0
def aX(P:Program)(ops:Array Oper)(tr:List (List AV×AS×AV))(sf:AS)(q:Nat):List AF->Bool
 |[]=>true
 |_=>Vs P ops (Im ops.toList []) (Og ops.toList 0) (tr.map (·.2.1)++[sf]) ops.toList tr 0 q
def aLV(P:Program)(G:AP)(ops:Array Oper)(tr:List (List AV×AS×AV))(sf:AS)(q:Nat)(r:List AF):Bool :=
 match azO P G ops tr sf with|true=>aX P ops tr sf q r|false=>false
def aOT:AV->Bool
 |.ptr _ _ | .OG _ _ _ | .mp _ | .fn _ _ _=>true
 |_=>false
def aHA:List AV->Bool
 |[]=>false
 |a::l=>match aOT a with|true=>true|false=>aHA l
def esc:AV->Bool
 |.agg l=>aHA l
 |.DW l=>aHA l
 |a=>aOT a
def fin(v:AV)(s:AS)(n:Nat):AS:=match esc v with|true=>s|false=>s.cut n
def Qj(ops:Array Oper)(fr:List AV)(o:Oper)(q:Nat):AV:=match Cp ops fr o with|true=>.ptr q 0|false=>.sc undef
inductive UG(P:Program)(G:AP)(X:XX)(H:Vp)(ops:Array Oper):Nat->List Oper->List AV->AS->List (List AV×AS×AV)->List AV->AS->Prop where
 |nil {q:Nat}{fr:List AV}{s:AS}:UG P G X H ops q [] fr s [] fr s
 |cons {q:Nat}{o:Oper}{l:List Oper}{fr Cj:List AV}{s s1 s':AS}{v:AV}{t:List (List AV×AS×AV)} (ha:BQ o.op=false) (h:J P G X H (.op ops o fr s (.ret v) s1)) (k:UG P G X H ops q l (JD fr o.dst v) s1 t Cj s'):UG P G X H ops q (o::l) fr s ((fr,s,v)::t) Cj s'
 |alloc {q:Nat}{o:Oper}{l:List Oper}{fr Cj:List AV}{s s':AS}{t:List (List AV×AS×AV)} (ha:BQ o.op=true) (k:UG P G X H ops (q+1) l (JD fr o.dst (Qj ops fr o q)) s t Cj s'):UG P G X H ops q (o::l) fr s ((fr,s,Qj ops fr o q)::t) Cj s'
section
variable {P:Program}{G:AP}{X:XX}{H:Vp}{ops:Array Oper}
def UG.len{q:Nat}{l:List Oper}{fr Cj:List AV}{s s':AS}{t:List (List AV×AS×AV)}(h:UG P G X H ops q l fr s t Cj s'):t.length=l.length:=by induction h with|nil=>rfl|cons _ _ _ ih=>simp[ih]|alloc _ _ ih=>simp[ih]
def FD(t:List (List AV×AS×AV))(sf:AS)(i:Nat):AS:=match t[i]? with|some x=>x.2.1|none=>sf
def KQ(t:List (List AV×AS×AV))(i:Nat):AV:=match t[i]? with|some x=>x.2.2|none=>.sc undef
def UG.at{q:Nat}{l:List Oper}{fr Cj:List AV}{s s':AS}{t:List (List AV×AS×AV)}(h:UG P G X H ops q l fr s t Cj s'):FD t s' 0=s/\∀i o,l[i]?=some o->∃fi,t[i]?=some (fi,FD t s' i,KQ t i) /\
 ((BQ o.op=false/\J P G X H (.op ops o fi (FD t s' i) (.ret (KQ t i)) (FD t s' (i+1))))\/(BQ o.op=true/\FD t s' (i+1)=FD t s' i/\KQ t i=Qj ops fi o (q+wF l i))):=by
 induction h with
 |nil=>exact⟨rfl,λi o ho=>by simp at ho⟩
 |@cons q o l fr Cj s s1 s' v t ha h k ih=>
  refine⟨rfl,λi o' ho=>?_⟩;cases i with
  |zero=>
   simp at ho;subst ho;refine⟨fr,rfl,.inl ⟨ha,?_⟩⟩
   have:FD ((fr,s,v)::t) s' 1=s1:=by have:=ih.1;unfold FD at this ⊢;simpa using this
   rw[this];exact h
  |succ i=>
   obtain⟨fi,h1,h2⟩:=ih.2 i o' (by simpa using ho)
   refine⟨fi,?_,?_⟩;have:((fr,s,v)::t)[i+1]?=t[i]?:=by simp
   rw[this,h1];simp[FD,KQ];simp only[wF,ha,aUU];simpa[FD,KQ] using h2
 |@alloc q o l fr Cj s s' t ha k ih=>
  refine⟨rfl,λi o' ho=>?_⟩;cases i with
  |zero=>
   simp at ho;subst ho;refine⟨fr,rfl,.inr ⟨ha,?_,?_⟩⟩;have:=ih.1;unfold FD at this ⊢;simpa using this
   simp[KQ,wF]
  |succ i=>
   obtain⟨fi,h1,h2⟩:=ih.2 i o' (by simpa using ho)
   refine⟨fi,?_,?_⟩;have:((fr,s,Qj ops fr o q)::t)[i+1]?=t[i]?:=by simp
   rw[this,h1];simp[FD,KQ];simp only[wF,ha];rw[<- bdW];simpa[FD,KQ] using h2
def UG.nC{q:Nat}{l:List Oper}{fr Cj:List AV}{s s':AS}{t:List (List AV×AS×AV)}(h:UG P G X H ops q l fr s t Cj s')(dst:Nat->Option Tmp)(vals:Nat->AV)(f0:List AV)(k:Nat)(Qq:fr=IL f0 dst vals (λ_=>true) k)(hd:∀i o,l[i]?=some o->dst (k+i)=o.dst)(hv:∀i,vals (k+i)=KQ t i\/l.length<=i) :
   Cj=IL f0 dst vals (λ_=>true) (k+l.length)/\∀i x,t[i]?=some x->x.1=IL f0 dst vals (λ_=>true) (k+i):=by
 have key:∀{q:Nat}{o:Oper}{l:List Oper}{fr Cj:List AV}{s:AS}{v:AV}{t:List (List AV×AS×AV)}
     (_:∀(k:Nat),JD fr o.dst v=IL f0 dst vals (λ_=>true) k->(∀i o,l[i]?=some o->dst (k+i)=o.dst)->(∀i,vals (k+i)=KQ t i\/l.length<=i)->Cj=IL f0 dst vals (λ_=>true) (k+l.length)/\∀i x,t[i]?=some x->x.1=IL f0 dst vals (λ_=>true) (k+i))
     (k:Nat),fr=IL f0 dst vals (λ_=>true) k->(∀i o',(o::l)[i]?=some o'->dst (k+i)=o'.dst)->(∀i,vals (k+i)=KQ ((fr,s,v)::t) i\/(o::l).length<=i) ->
     Cj=IL f0 dst vals (λ_=>true) (k+(o::l).length)/\∀i x,((fr,s,v)::t)[i]?=some x->x.1=IL f0 dst vals (λ_=>true) (k+i):=by
   intro q o l fr Cj s v t ih k Qq hd hv;have hd0:=hd 0 o rfl
   have hv0:vals k=v:=by
    rcases hv 0 with h0 | h0
    simpa[KQ] using h0
    simp at h0
   have:=ih (k+1) (by simp only[IL,if_true];rw[Qq,<- hd0,hv0];rfl) (λi o' Y9=>by have:=hd (i+1) o' (by simpa using Y9);rwa[show k+1+i=k+(i+1) from by omega]) (λi=>by
    rcases hv (i+1) with h1 | h1
    left;rw[show k+1+i=k+(i+1) from by omega,h1];simp[KQ];right;simp at h1;omega)
   refine⟨by rw[this.1];congr 1;simp;omega,λi x hx=>?_⟩;cases i with
   |zero=>simp at hx;subst hx;exact Qq
   |succ i=>
    have h2:=this.2 i x (by simpa using hx)
    rw[h2];congr 1;omega
 induction h generalizing k with|nil=>exact⟨Qq,λi x hx=>by simp at hx⟩|@cons q o l fr Cj s s1 s' v t ha h _ ih=>exact key (q:=q) (λk h1 h2 h3=>ih k h1 h2 h3) k Qq hd hv|@alloc q o l fr Cj s s' t ha _ ih=>exact key (q:=q) (λk h1 h2 h3=>ih k h1 h2 h3) k Qq hd hv
def aBU{i k:Nat}{ls:List Nat}(hls:∀l,l∈ls->eE ops l)(h:Win ops i k):atW (Im ops.toList []) ls i k=true:=by unfold atW;rw[bcC];intro l hl;have h1:=h.1 l (hls l hl);have h2:=h.2 l (hls l hl);cases hd1:Um (Im ops.toList []) i l<;>cases hd2:Um (Im ops.toList []) l i<;>simp_all
def oC{os:List Oper}{i l:Nat}(h:l∈Og os i):∃j o,l=i+j/\os[j]?=some o/\calm o.op=false:=by
 induction os generalizing i with
 |nil=>simp[Og] at h
 |cons x os ih=>
  simp only[Og] at h;split at h;obtain⟨j,o,h1,h2,h3⟩:=ih h;exact⟨j+1,o,by omega,by simpa using h2,h3⟩
  rename_i hq;rcases bbG.1 h with h | h
  exact⟨0,x,by omega,rfl,by simpa using hq⟩
  obtain⟨j,o,h1,h2,h3⟩:=ih h;exact⟨j+1,o,by omega,by simpa using h2,h3⟩
def J9{o:Oper}{fr:List AV}{s s':AS}{v:AV}(hq:quiet o.op=true)(h:J P G X H (.op ops o fr s (.ret v) s')):s'=s/\((Cp ops fr o=false/\v=.sc undef)\/(Cp ops fr o=true/\RJ P G fr s o=some (.val v s))):=by
 cases h with
 |O1 hw h=>
  obtain⟨v',e⟩:=Yq hq h;injection e with e1 e2
  subst e2;exact⟨rfl,.inr ⟨hw,h⟩⟩
 |yU hw=>exact⟨rfl,.inl ⟨hw,rfl⟩⟩
 |TQ hw h hc=>
  obtain⟨v',e⟩:=Yq hq h;cases e
 |yW hJ=>rw[hq] at hJ;cases hJ
 |oI hJ=>rw[hq] at hJ;cases hJ
 |apQ _ ho Ib=>simp[quiet,ho,Ib] at hq
def afP{ms ls:List Nat}{i id:Nat}{cs:List AV}{ss:List AS}{k0:Nat}(h:bZ ms ls i id cs ss k0=true){k:Nat}{s:AS}(hs:ss[k]?=some s)(hw:atW ms ls i (k0+k)=true):s.get id=some (.cells cs):=by
 induction ss generalizing k0 k with
 |nil=>simp at hs
 |cons x ss ih=>
  simp only[bZ,aUR] at h;cases k with
  |zero=>
   simp at hs;subst hs;rw[bcS] at hw;have h1:=h.1;rw[hw] at h1;simp only[bhY,bhZ] at h1;split at h1;rename_i ds hu;rw[hu,PU h1];cases h1
  |succ k=>exact ih h.2 (by simpa using hs) (by rwa[show k0+1+k=k0+(k+1) from by omega])
def afI{ms ls:List Nat}{N4:List AS}{os:List Oper}{ts:List (List AV×AS×AV)}{i0 q:Nat}(h:Vs P ops ms ls N4 os ts i0 q=true){i:Nat}{o:Oper}{e:TypeId}{x:List AV×AS×AV}(ho:os[i]?=some o)(hx:ts[i]?=some x)(he:o.op=.alloc e)(hw:Cp ops x.1 o=true):∃z,LA P e=some z/\bZ ms ls (i0+i) (q+wF os i) (cellsOf z) N4 0=true:=by
 induction os generalizing ts i0 i q with
 |nil=>simp at ho
 |cons y os ih=>
  cases ts with
  |nil=>simp at hx
  |cons t ts=>
   cases i with
   |zero=>
    simp at ho hx;subst ho hx;simp only[Vs,he,hw,bhY,bhZ,aUR] at h;have h1:=h.1;split at h1;rename_i z hz;exact⟨z,hz,h1⟩;cases h1
   |succ i=>
    simp only[Vs] at h;split at h;rename_i e' he';rw[aUR] at h;have:=ih h.2 (by simpa using ho) (by simpa using hx)
    simp only[wF,he',BQ];rwa[show i0+1+i=i0+(i+1) from by omega,bdW q] at this;rename_i hne;have:=ih h (by simpa using ho) (by simpa using hx)
    have vZ:BQ y.op=false:=by cases nX:BQ y.op with|false=>rfl|true=>obtain⟨e',he'⟩:=K4 nX;exact absurd he' (hne e')
    simp only[wF,vZ,aUU];rwa[show i0+1+i=i0+(i+1) from by omega] at this
def azC{l:List Oper}{r:List AF}(h:rsv P l=some r):r.length=wF l l.length:=by
 induction l generalizing r with
 |nil=>simp[rsv] at h;subst h;rfl
 |cons o l ih=>
  simp only[rsv] at h;split at h;rename_i e he;split at h;rename_i z r' hz hr;cases h;simp only[amN,wF,he,BQ,ih hr];omega;cases h;rename_i hne
  have vZ:BQ o.op=false:=by cases nX:BQ o.op with|false=>rfl|true=>obtain⟨e',he'⟩:=K4 nX;exact absurd he' (hne e')
  simp only[amN,wF,vZ,ih h];omega
def SG{o:Oper}{e:TypeId}(h:o.op=.alloc e):quiet o.op=false:=by rw[h];rfl
end
end AI
namespace AI
open Go Go.RowKit
def inI:Int->Bool
 |.ofNat m=>bfD m 9223372036854775807
 |.negSucc m=>bfD m 9223372036854775807
def N6(k:IntKind)(n:Int):Int:=match k with
 |.i64=>(match inI n with | true=>n | false=>beR.wrap n)
 |k=>k.wrap n
def aJH{n:Int}(h:inI n=true):beR.wrap n=n:=by
 refine bgM n ?_;cases n with
 |ofNat m=>
  have:=aUX h;have e:Int.ofNat m=(m:Int):=rfl;rw[e];have h2:(m:Int)<=9223372036854775807:=bkC.2 this;have h3:(0:Int)<=m:=bjT m;omega
 |negSucc m=>
  have:=aUX h;rw[Int.negSucc_eq];constructor;have e:(-9223372036854775808:Int)=-(9223372036854775807+1):=rfl;rw[e];have h2:(m:Int)<=9223372036854775807:=bkC.2 this;omega;have h2:(0:Int)<=m:=bjT m;omega
def KR(k:IntKind)(n:Int):N6 k n=k.wrap n:=by
 cases k<;>try rfl
 simp only[N6];cases h:inI n with|true=>exact(aJH h).symm|false=>rfl
def ajN:Int->Int->Int
 |.ofNat a,.ofNat b=>.ofNat (Nat.add a b)
 |a,b=>a+b
def mH(a b:Int):ajN a b=a+b:=by cases a<;>cases b<;>rfl
def aSN(a b:Nat):Int:=match bfD b a with|true=>.ofNat (Nat.sub a b)|false=>(a:Int) - (b:Int)
def oV:Int->Int->Int
 |.ofNat a,.ofNat b=>aSN a b
 |a,b=>a - b
def oW(a b:Int):oV a b=a - b:=by
 cases a<;>cases b<;>try rfl
 rename_i a b;simp only[oV,aSN];cases h:bfD b a with
 |true=>
  have:=aUX h;show Int.ofNat (a - b)=(a:Int) - (b:Int);exact Int.ofNat_sub this
 |false=>rfl
def Bg:Int->Int->Bool
 |.ofNat a,.ofNat b=>bcA a b
 |.negSucc a,.negSucc b=>bcA a b
 |_,_=>false
def Tw(a b:Int):Bg a b=(a == b):=by
 cases a<;>cases b<;>simp only[Bg]
 rename_i a b;rw[bbR,beq_iff_eq,Int.ofNat.injEq];exact⟨λh=>bcI h,λh=>by subst h;exact bgK a⟩;rw[bbR,beq_iff_eq];exact⟨λh=>by simp at h,λh=>by cases h⟩;rw[bbR,beq_iff_eq];exact⟨λh=>by simp at h,λh=>by cases h⟩;rename_i a b;rw[bbR,beq_iff_eq,Int.negSucc.injEq];exact⟨λh=>bcI h,λh=>by subst h;exact bgK a⟩
def Lg:Int->Int->Bool
 |.ofNat a,.ofNat b=>bfD a b
 |a,b=>decide (a<=b)
def dZ(a b:Int):Lg a b=decide (a<=b):=by
 cases a<;>cases b<;>try rfl
 rename_i a b;simp only[Lg];rw[bbR,decide_eq_true_iff];show _↔(a:Int)<=(b:Int);rw[bkC];exact⟨aUX,bdR⟩
def CV:Int->Int->Bool
 |.ofNat a,.ofNat b=>bfD (Nat.succ a) b
 |a,b=>decide (a < b)
def TJ(a b:Int):CV a b=decide (a < b):=by
 cases a<;>cases b<;>try rfl
 rename_i a b;simp only[CV];rw[bbR,decide_eq_true_iff];show _↔(a:Int) < (b:Int);rw[Int.ofNat_lt];exact⟨aUX,bdR⟩
def sameKind:IntKind->IntKind->Bool
 |.i64,.i64=>true
 |.u8,.u8=>true
 |_,_=>false
def uP{a b:IntKind}(h:sameKind a b=true):a=b:=by cases a<;>cases b<;>first | rfl | cases h
def awT(k:IntKind)(a b:Int):BinOp->Option Value
 |.add=>some (.int k (N6 k (ajN a b)))
 |.sub=>some (.int k (N6 k (oV a b)))
 |.mul=>some (.int k (N6 k (a*b)))
 |.eql=>some (.bool (Bg a b))
 |.neq=>some (.bool (!Bg a b))
 |.lss=>some (.bool (CV a b))
 |.leq=>some (.bool (Lg a b))
 |.gtr=>some (.bool (CV b a))
 |.geq=>some (.bool (Lg b a))
 |_=>none
def awU{P:Program}{op:BinOp}{k:IntKind}{a b:Int}{t:TypeId}{xo yo:Operand}{v:Value}(h:awT k a b op=some v):pv P (do eqGuard op t xo yo (.int k a) (.int k b);binOp op t (.int k a) (.int k b))=some v/\scalar v=true:=by cases op<;>simp only[awT,aUQ,reduceCtorEq] at h<;>subst h<;>refine⟨?_,rfl⟩<;>simp[eqGuard,binOp,Op.intArith,Op.intCmp,pv,KR,mH,oW,Tw,TJ,dZ,bne,Bind.bind,Sem.bind,Pure.pure]
def BE:List UInt8->List UInt8->Bool
 |[],[]=>true
 |a::l,b::m=>(match bcA a.toNat b.toNat with|true=>BE l m|false=>false)
 |_,_=>false
def cJ(l m:List UInt8):BE l m=(l == m):=by
 induction l generalizing m with
 |nil=>cases m<;>rfl
 |cons a l ih=>
  cases m with
  |nil=>rfl
  |cons b m=>
   simp only[BE];cases h:bcA a.toNat b.toNat with
   |true=>
    have:a=b:=UInt8.toNat_inj.1 (bcI h);subst this;simp only[ih];simp
   |false=>
    have:a≠b:=λe=>by subst e;have:=beO h;exact this rfl
    simp[this]
def aLW(x y:ByteArray):BinOp->Option Value
 |.eql=>some (.bool (BE x.data.toList y.data.toList))
 |.neq=>some (.bool (!BE x.data.toList y.data.toList))
 |op=>wS op x y
def azP(x y:ByteArray)(op:BinOp):aLW x y op=wS op x y:=by cases op<;>simp only[aLW,wS,cJ]
def arC(v:Option Value):Option AV:=match v with
 |some v=>(match scalar v with | true=>some (.sc v) | false=>none)
 |none=>none
def arD(v:Option Value):arC v=v.bind jB:=by cases v with|none=>rfl|some v=>simp only[arC,TC,jB];cases scalar v<;>rfl
def scF(P:Program)(op:BinOp)(t:TypeId)(xo yo:Operand)(x y:Value):Option AV :=
 match x with
 |.int k a=>(match y with
  |.int k' b=>(match sameKind k k' with
   |true=>(match awT k a b op with|some v=>some (.sc v)|none=>Md P op t xo yo (.sc (.int k a)) (.sc (.int k' b)))
   |false=>Md P op t xo yo (.sc (.int k a)) (.sc (.int k' b)))
  |y=>Md P op t xo yo (.sc (.int k a)) (.sc y))
 |.string a=>(match y with|.string b=>arC (aLW a b op)|y=>Md P op t xo yo (.sc (.string a)) (.sc y))
 |x=>Md P op t xo yo (.sc x) (.sc y)
def bL(P:Program)(op:BinOp)(t:TypeId)(xo yo:Operand)(a b:AV):Option AV :=
 match a with
 |.sc x=>(match b with|.sc y=>scF P op t xo yo x y|b=>Md P op t xo yo (.sc x) b)
 |a=>Md P op t xo yo a b
def Tc(P:Program)(op:BinOp)(t:TypeId)(xo yo:Operand)(a b:AV):bL P op t xo yo a b=Md P op t xo yo a b:=by
 unfold bL;cases a with
 |sc x=>
  cases b with
  |sc y=>
   simp only[scF];cases x with
   |int k a=>
    cases y with
    |int k' b=>
     simp only;cases hk:sameKind k k' with
     |false=>rfl
     |true=>
      have:=uP hk;subst this;simp only;cases hf:awT k a b op with
      |none=>rfl
      |some v=>
       obtain⟨h1,h2⟩:=awU (P:=P) (t:=t) (xo:=xo) (yo:=yo) hf;simp[Md,SF,XI,h1,jB,h2]
    |_=>rfl
   |string a=>
    cases y with|string b=>simp only[arD,azP];rfl|_=>rfl
   |_=>rfl
  |_=>rfl
 |_=>rfl
def apI:List UInt8->Nat->Option UInt8
 |[],_=>none
 |a::_,0=>some a
 |_::l,n+1=>apI l n
def axN(l:List UInt8)(n:Nat):apI l n=l[n]?:=by induction l generalizing n with|nil=>simp[apI]|cons a l ih=>cases n<;>simp[apI,ih]
def aOJ:Option UInt8->Option AV
 |some b=>some (.sc (.int .u8 (.ofNat b.toNat)))
 |none=>none
def aG(P:Program)(t:TypeId)(x ix:AV):Option AV :=
 match x with
 |.sc (.string s)=>(match P.underlying t with
  |some .string=>(match UH ix with|some i=>aOJ (apI s.data.toList i)|none=>none)
  |_=>Ly P t (.sc (.string s)) ix)
 |x=>Ly P t x ix
def wN(P:Program)(t:TypeId)(x ix:AV):aG P t x ix=Ly P t x ix:=by
 unfold aG;cases x with
 |sc v=>
  cases v with
  |string s=>
   simp only;split
   ·rename_i hu
    unfold Ly;rw[hu];cases UH ix with
    |none=>rfl
    |some i=>
     simp only[axN];cases s.data.toList[i]?<;>rfl
   rfl
  |_=>rfl
 |_=>rfl
end AI
namespace AI
open Go Go.RowKit
def nth:List AV->Nat->AV
 |[],_=>.sc undef
 |a::_,0=>a
 |_::l,n+1=>nth l n
def aKG(l:List AV)(n:Nat):nth l n=l.getD n (.sc undef):=by induction l generalizing n with|nil=>simp[nth]|cons a l ih=>cases n<;>simp[nth,ih]
def evG:Option (List AV)->Option AV
 |some cs=>some (.el cs)
 |none=>none
def AO(G:AP)(fr:List AV):Operand->Option AV
 |.tmp t=>some (nth fr t)
 |.const v=>Zl v
 |.global g=>evG (G g)
 |.func f=>some (.fn (.func f) [] [])
def Cm(G:AP)(fr:List AV)(x:Operand):AO G fr x=A3 G fr x:=by cases x with|tmp t=>simp only[AO,A3,aKG]|const v=>rfl|global g=>simp only[AO,A3];cases G g<;>rfl|func f=>rfl
def Nv(s:AS):Option AV->Option AR
 |some v=>some (.val v s)
 |none=>none
def UE(s:AS)(o:Option AV):Nv s o=o.map (λv=>.val v s):=by cases o<;>rfl
def vL:Option AS->Option AR
 |some s=>some (.val (.sc undef) s)
 |none=>none
def aBC(o:Option AS):vL o=o.map (λs=>.val (.sc undef) s):=by cases o<;>rfl
def aiN:Option (AV×AS)->Option AR
 |some r=>some (.val r.1 r.2)
 |none=>none
def aeI(o:Option (AV×AS)):aiN o=o.map (λr=>.val r.1 r.2):=by cases o<;>rfl
def pJ{α β:Type}(o:Option α)(f:α->Option β):Option β:=match o with|some a=>f a|none=>none
def mQ{α β:Type}(o:Option α)(f:α->Option β):pJ o f=o.bind f:=by cases o<;>rfl
def two{β:Type}(a b:Option AV)(f:AV->AV->Option β):Option β:=match a with
 |some x=>(match b with|some y=>f x y|none=>none)
 |none=>none
def three{β:Type}(a b d:Option AV)(f:AV->AV->AV->Option β):Option β:=match a with
 |some x=>(match b with
  |some y=>(match d with|some z=>f x y z|none=>none)
  |none=>none)
 |none=>none
def aDO(x y:Option AV):Option AV->Option AV
 |some (.sc (.bool t))=>(match t with | true=>x | false=>y)
 |_=>none
def apF(s:AS):Option AV->Option AR
 |some z=>some (.val (.ptr s.nx 0) (s.new (.cells (cellsOf z))))
 |none=>none
def acQ(t:TypeId)(s:AS):Option AV->Option AR
 |some z=>(match SJ z with | true=>none | false=>some (.val (.ptr s.nx 0) (s.new (ajY t s.nx z))))
 |none=>none
def wY(s:AS):Option AV->Option AR
 |some v=>(match notNil v with | true=>some (.val v s) | false=>none)
 |none=>none
def yC(t:TypeId)(s:AS)(v:Option AV):Option TypeDesc->Option AR
 |some d=>(match v with
  |some v=>(match isIface d with | true=>none | false=>some (.val (.ifc t v) s))
  |none=>none)
 |none=>none
def func1(f:Fn)(s:AS)(b:Option (List AV)):Option (List AV)->Option AR
 |some a=>(match b with|some b=>some (.val (.fn f a b) s)|none=>none)
 |none=>none
def arS(P:Program)(s:AS)(t:TypeId)(l h m:Option (Option AV)):Option AV->Option AR
 |some a=>(match l with
  |some l=>(match h with
   |some h=>(match m with|some m=>Nv s (Ml P t a l h m)|none=>none)
   |none=>none)
  |none=>none)
 |none=>none
def aRS:Option AV->Option AR
 |some (.ifc t v)=>some (.pan (.ifc t v))
 |_=>none
def aOS(P:Program)(as:Option (List AV)):Option AV->Option AR
 |some (.fn (.func g) first caps)=>(match as with
  |some as=>(match M1 P g with | true=>some (.ent g (first++as++caps)) | false=>none)
  |none=>none)
 |_=>none
def aRE(P:Program)(G:AP)(fr:List AV)(s:AS):List Operand->List TypeId->Option AR
 |[x],[t]=>Nv s (pJ (AO G fr x) (Zx P s t))
 |_,_=>none
def aOC(P:Program)(G:AP)(fr:List AV)(s:AS):List Operand->List TypeId->Option AR
 |[x,y],[t,tx]=>aiN (two (AO G fr x) (AO G fr y) (Lx P s t tx))
 |_,_=>none
def aDQ(P:Program)(s:AS)(f:List Value->Sem Value):Option (List Value)->Option AR
 |some vs=>Nv s (YV P (f vs))
 |none=>none
def aDR(P:Program)(s:AS)(f:Value->Sem Value):Option Value->Option AR
 |some v=>Nv s (YV P (f v))
 |none=>none
def Tq(P:Program)(G:AP)(fr:List AV)(s:AS)(o:Oper)(cl:Call):Builtin->Option AR
 |.len=>aRE P G fr s cl.args.toList cl.argTypes.toList
 |.append=>aOC P G fr s cl.args.toList cl.argTypes.toList
 |.max=>aDQ P s (λvs=>blV cl.argTypes o.type vs.toArray) (pJ (iH G fr cl.args.toList) Qd)
 |.min=>aDQ P s (λvs=>blW cl.argTypes o.type vs.toArray) (pJ (iH G fr cl.args.toList) Qd)
 |_=>none
def mF(P:Program)(G:AP)(fr:List AV)(s:AS)(o:Oper)(cl:Call):Option AR :=
 match cl.callee with|.builtin b=>Tq P G fr s o cl b|.value f=>aOS P (iH G fr cl.args.toList) (AO G fr f)|_=>none
def sK(s:AS):Option Operand->Option AR
 |none=>some (.val (.mp s.nx) (s.new (.map [] 0)))
 |some _=>none
def X0(P:Program)(G:AP)(fr:List AV)(s:AS)(o:Oper):Option AR :=
 match o.op with|.move x=>Nv s (AO G fr x)|.assign x=>Nv s (AO G fr x)|.pick c a b=>Nv s (aDO (AO G fr a) (AO G fr b) (AO G fr c))|.alloc e=>apF s (LA P e)|.box t x=>acQ t s (AO G fr x)|.build t ps=>Nv s (pJ (MG G fr ps.toList) (bM P t))|.buildSlice t n ps=>Nv s (pJ (MG G fr ps.toList) (MY P t n))|.load t a=>Nv s (pJ (AO G fr a) (Lf P s t))|.store t a x=>vL (two (AO G fr a) (AO G fr x) (Mn P s t))|.nilCheck x=>wY s (AO G fr x)|.binOp op t x y _=>Nv s (two (AO G fr x) (AO G fr y) (bL P op t x y))|.unOp op _ x=>aDR P s (bmA op) (pJ (AO G fr x) Z7)|.convert src dst x=>Nv s (pJ (AO G fr x) (Te P src dst))|.makeInterface t x=>yC t s (AO G fr x) (P.underlying t)|.makeFunc f first caps=>func1 f s (iH G fr caps.toList) (iH G fr first.toList)|.makeMap _ r=>sK s r|.makeSlice t l c=>aiN (two (AO G fr l) (AO G fr c) (JC P s t))|.slice t x lo hi mx=>arS P s t (pK G fr lo) (pK G fr hi) (pK G fr mx) (AO G fr x)|.fieldAddr t x k=>Nv s (pJ (AO G fr x) λa=>Th P t a k)|.field t x k=>Nv s (pJ (AO G fr x) λa=>bP P t a k)|.indexAddr t x i=>Nv s (two (AO G fr x) (AO G fr i) (Df P t))|.index t x i=>Nv s (two (AO G fr x) (AO G fr i) (aG P t))|.lookup t x k ok=>Nv s (two (AO G fr x) (AO G fr k) λa b=>IR P s t a b ok)|.mapUpdate t m k x=>vL (three (AO G fr m) (AO G fr k) (AO G fr x) (KT P s t))|.insert t m k x=>vL (three (AO G fr m) (AO G fr k) (AO G fr x) (KT P s t))|.mapEntry t m k=>aiN (two (AO G fr m) (AO G fr k) (QX P s t))|.entryStore _ m st x=>vL (three (AO G fr m) (AO G fr st) (AO G fr x) (MZ s))|.extract x k=>Nv s (pJ (AO G fr x) λa=>Tf a k)|.call cl=>mF P G fr s o cl|.panic x=>aRS (AO G fr x)|_=>none
def afF(P:Program)(G:AP)(fr:List AV)(s:AS)(o:Oper)(cl:Call):mF P G fr s o cl=U9 P G fr s o cl:=by
 unfold mF U9;cases hc:cl.callee with
 |value f=>
  simp only[Cm];cases A3 G fr f with
  |none=>rfl
  |some v=>
   cases v with
   |fn g a b=>
    cases g with
    |func g=>
     cases iH G fr cl.args.toList with
     |none=>rfl
     |some as=>
      simp only[aOS];cases M1 P g<;>rfl
    |_=>rfl
   |_=>rfl
 |invoke r m=>rfl
 |builtin b=>
  cases b<;>try rfl
  ·simp only[Tq]
   cases hx:cl.args.toList with
   |nil=>rfl
   |cons x xs=>
    cases xs with
    |nil=>rfl
    |cons y ys=>
     cases ys with
     |cons z zs=>rfl
     |nil=>
      cases ht:cl.argTypes.toList with
      |nil=>rfl
      |cons t ts=>
       cases ts with
       |nil=>rfl
       |cons u us=>
        cases us with
        |cons v vs=>rfl
        |nil=>
         simp only[aOC,Cm];cases A3 G fr x<;>cases A3 G fr y<;>first | rfl | exact aeI _
  ·simp only[Tq]
   cases hx:cl.args.toList with
   |nil=>rfl
   |cons x xs=>
    cases xs with
    |cons y ys=>rfl
    |nil=>
     cases ht:cl.argTypes.toList with
     |nil=>rfl
     |cons t ts=>
      cases ts with|cons u us=>rfl|nil=>simp only[aRE,Cm,mQ];exact UE _ _
  simp only[Tq,mQ];cases (iH G fr cl.args.toList).bind Qd with|none=>rfl|some vs=>exact UE _ _
  simp only[Tq,mQ];cases (iH G fr cl.args.toList).bind Qd with|none=>rfl|some vs=>exact UE _ _
def N9(P:Program)(G:AP)(fr:List AV)(s:AS)(o:Oper):X0 P G fr s o=RJ P G fr s o:=by
 unfold X0 RJ;cases ho:o.op<;>simp only[Cm,UE,aBC,aeI,mQ,afF]
 case pick c a b=>
  cases A3 G fr c with
  |none=>rfl
  |some v=>
   cases v with
   |sc u=>cases u<;>first | rfl | (rename_i t;cases t<;>rfl)
   |_=>rfl
 case alloc e=>cases LA P e<;>rfl
 case box e x=>
  cases A3 G fr x with|none=>rfl|some v=>cases v<;>rfl
 case store t a x=>cases A3 G fr a<;>cases A3 G fr x<;>rfl
 case nilCheck x=>
  cases A3 G fr x with|none=>rfl|some v=>simp only[wY];cases notNil v<;>rfl
 case binOp op t x y z=>cases A3 G fr x<;>cases A3 G fr y<;>first | rfl | (simp only[two,Tc])
 case unOp op t x=>cases (A3 G fr x).bind Z7 with|none=>rfl|some v=>exact UE _ _
 case makeInterface t x=>
  cases A3 G fr x with
  |none=>cases P.underlying t<;>rfl
  |some v=>
   cases P.underlying t with|none=>rfl|some d=>simp only[yC];cases isIface d<;>rfl
 case makeFunc f a b=>cases iH G fr a.toList<;>cases iH G fr b.toList<;>rfl
 case makeMap t r=>cases r<;>rfl
 case makeSlice t l c=>cases A3 G fr l<;>cases A3 G fr c<;>rfl
 case slice t x lo hi mx=>
  cases A3 G fr x<;>cases pK G fr lo<;>cases pK G fr hi<;>cases pK G fr mx<;>first | rfl | exact UE _ _
 case indexAddr t x i=>cases A3 G fr x<;>cases A3 G fr i<;>rfl
 case index t x i=>cases A3 G fr x<;>cases A3 G fr i<;>first | rfl | (simp only[two,wN])
 case lookup t x k ok=>cases A3 G fr x<;>cases A3 G fr k<;>rfl
 case mapUpdate t m k x=>cases A3 G fr m<;>cases A3 G fr k<;>cases A3 G fr x<;>rfl
 case insert t m k x=>cases A3 G fr m<;>cases A3 G fr k<;>cases A3 G fr x<;>rfl
 case mapEntry t m k=>cases A3 G fr m<;>cases A3 G fr k<;>rfl
 case entryStore t m k x=>cases A3 G fr m<;>cases A3 G fr k<;>cases A3 G fr x<;>rfl
 case panic x=>
  cases A3 G fr x with|none=>rfl|some v=>cases v<;>rfl
end AI
namespace AI
open Go Go.RowKit
abbrev Rec:=Tk->Option Rs
def aYQ(r:Rec)(y:Code):Option Rs->Option Rs
 |some (.code e fr s)=>(match e with|.normal=>r (.code y fr s)|e=>some (.code e fr s))
 |_=>none
def aOO(r:Rec)(x y:Code)(fr:List AV)(s:AS):Option AV->Option Rs
 |some (.sc (.bool t))=>(match t with|true=>r (.code x fr s)|false=>r (.code y fr s))
 |_=>none
def aGN(id:Nat):Option Rs->Option Rs
 |some (.code e fr s)=>some (.code (FR id e) fr s)
 |_=>none
def aCM:Option Rs->Option Rs
 |some (.code e fr s)=>some (.code e fr s)
 |_=>none
def aOR(P:Program)(G:AP)(ops:Array Oper)(q:Nat)(rs:List AF):Option Rs->Option Rs
 |some (.tr t fr s)=>(match aLV P G ops t s q rs with|true=>some (.code .normal fr s)|false=>none)
 |_=>none
def aQC(P:Program)(G:AP)(r:Rec)(ops:Array Oper)(fr:List AV)(s:AS):Option (List AF)->Option Rs
 |some rs=>aOR P G ops s.nx rs (r (.draw ops ops.toList fr (s.hold rs) s.nx))
 |none=>none
def aOQ(P:Program)(G:AP)(r:Rec)(ops:Array Oper)(fr:List AV)(s:AS):Bool->Option Rs
 |true=>aQC P G r ops fr s (rsv P ops.toList)
 |false=>none
def ayP(P:Program)(G:AP)(r:Rec)(ops:Array Oper)(fr:List AV)(s:AS):Bool->Option Rs
 |false=>aCM (r (.ops ops ops.toList fr s))
 |true=>aOQ P G r ops fr s (Nb ops)
def aRG(r:Rec)(c:Code):Option Rs->Option Rs
 |some (.code e fr s)=>(match e with|.normal=>r (.loop c fr s)|e=>some (.code e fr s))
 |_=>none
def aYG(r:Rec)(ops:Array Oper)(dst:Option Tmp)(l:List Oper)(fr:List AV):Option Rs->Option Rs
 |some (.call c s)=>(match c with|.ret v=>r (.ops ops l (JD fr dst v) s)|.pan v=>some (.code (.pan v) fr s))
 |_=>none
def aTR(r:Rec)(ops:Array Oper)(fr:List AV)(s:AS):List Oper->Option Rs
 |[]=>some (.code .normal fr s)
 |o::l=>aYG r ops o.dst l fr (r (.op ops o fr s))
def trK(fr:List AV)(s:AS)(v:AV):Option Rs->Option Rs
 |some (.tr t Wr s2)=>some (.tr ((fr,s,v)::t) Wr s2)
 |_=>none
def aME(r:Rec)(ops:Array Oper)(dst:Option Tmp)(l:List Oper)(fr:List AV)(s:AS)(q:Nat):Option Rs->Option Rs
 |some (.call (.ret v) s1)=>trK fr s v (r (.draw ops l (JD fr dst v) s1 q))
 |_=>none
def aGA(r:Rec)(ops:Array Oper)(o:Oper)(l:List Oper)(fr:List AV)(s:AS)(q:Nat)(v:AV):Option Rs:=trK fr s v (r (.draw ops l (JD fr o.dst v) s (q+1)))
def aMD(r:Rec)(ops:Array Oper)(o:Oper)(l:List Oper)(fr:List AV)(s:AS)(q:Nat):Bool->Option Rs
 |true=>aGA r ops o l fr s q (Qj ops fr o q)
 |false=>aME r ops o.dst l fr s q (r (.op ops o fr s))
def arW(r:Rec)(ops:Array Oper)(fr:List AV)(s:AS)(q:Nat):List Oper->Option Rs
 |[]=>some (.tr [] fr s)
 |o::l=>aMD r ops o l fr s q (BQ o.op)
def aOM:Option Rs->Option Rs
 |some (.call c s)=>some (.call c s)
 |_=>none
def opK(r:Rec)(s:AS):Option AR->Option Rs
 |some (.val v s1)=>some (.call (.ret v) s1)
 |some (.pan v)=>some (.call (.pan v) s)
 |some (.ent f args)=>aOM (r (.call f args s))
 |none=>none
def aHL(ops:Array Oper)(fr:List AV):Option (Nat×Bool)->Bool
 |none=>true
 |some p=>(match (ops[p.1]?).bind (·.dst) with
  |some d=>(match nth fr d with|.sc (.bool b)=>b == p.2|_=>false)
  |none=>false)
def aQE(k:CR->Option CR):Option Rs->Option Rs
 |some (.call c s)=>(match k c with|some c1=>some (.call c1 s)|none=>none)
 |_=>none
def aRZ(s:AS)(n:Nat):Option AV->Option Rs
 |some v=>some (.call (.ret v) (fin v s n))
 |none=>none
def aOI(P:Program)(fn:Func)(n:Nat):Option Rs->Option Rs
 |some (.code e fr s)=>(match e with|.normal=>aRZ s n (I5 P s fn fr)|.ret=>aRZ s n (I5 P s fn fr)|.pan v=>some (.call (.pan v) (s.cut n))|.exit _=>none)
 |_=>none
def aOH(P:Program)(r:Rec)(fn:Func)(args:List AV)(s:AS):Option Code->Option Rs
 |some c=>aOI P fn s.nx (r (.code c (args++bdF (fn.ntmps - args.length) (.sc undef)) s))
 |none=>none
def fnC(P:Program)(r:Rec)(args:List AV)(s:AS):Option Func->Option Rs
 |some fn=>aOH P r fn args s fn.body
 |none=>none
def aQD(P:Program)(r:Rec)(f:FuncId)(args:List AV)(s:AS):Option (FuncId×List AV×(CR->Option CR))->Option Rs
 |some (g,cS,k)=>aQE k (r (.call g cS s))
 |none=>fnC P r args s P.funcs[f]?
def aUJ(P:Program)(H:Vp)(r:Rec)(f:FuncId)(args:List AV)(s:AS):Option (CR×AS)->Option Rs
 |some (c,s1)=>some (.call c s1)
 |none=>aQD P r f args s (H f args)
end AI
namespace AI
open Go Go.RowKit
def aYC(l:List AV):Nat->AV:=bmB (motive:=λ_=>Nat->AV) (λ_=>.sc undef) (λa _ ih n=>Nat.rec (motive:=λ_=>AV) a (λk _=>ih k) n) l
def aYR(v:AV)(l:List AV):Nat->List AV:=bmB (motive:=λ_=>Nat->List AV) (λ_=>[]) (λa t ih n=>Nat.rec (motive:=λ_=>List AV) (v::t) (λk _=>a::ih k) n) l
def aOD(fr:List AV)(dst:Option Tmp)(v:AV):List AV:=blC (motive:=λ_=>List AV) fr (λd=>aYR v fr d) dst
abbrev Sm:=Program->AP->List AV->AS->Oper->Option AR
def aHC(t:Tmp)(_:AP)(fr:List AV):Option AV:=some (aYC fr t)
def avL(v:Value)(_:AP)(_:List AV):Option AV:=Zl v
def aHB(g:Nat)(G:AP)(_:List AV):Option AV:=evG (G g)
def aUI(f:FuncId)(_:AP)(_:List AV):Option AV:=some (.fn (.func f) [] [])
def evR(x:Operand):AP->List AV->Option AV:=Operand.rec (motive:=λ_=>AP->List AV->Option AV) aHC avL aHB aUI x
def oK{α β:Type}(o:Option α)(f:α->Option β):Option β:=blC (motive:=λ_=>Option β) none f o
def aRI(s:AS)(v:AV):Option AR:=some (.val v s)
def aiO(s:AS)(o:Option AV):Option AR:=oK o (aRI s)
def adQ(x:Operand):Sm:=λ_ G fr s _=>aiO s (evR x G fr)
def azK(c a b:Operand):Sm:=λ_ G fr s _=>Nv s (aDO (AO G fr a) (AO G fr b) (AO G fr c))
def arF(e:TypeId):Sm:=λP _ _ s _=>apF s (LA P e)
def aLM(t:TypeId)(x:Operand):Sm:=λ_ G fr s _=>acQ t s (AO G fr x)
def arG(t:TypeId)(ps:Array (Nat×Operand)):Sm:=λP G fr s _=>Nv s (pJ (MG G fr ps.toList) (bM P t))
def jC(t:TypeId)(n:Nat)(ps:Array (Nat×Operand)):Sm:=λP G fr s _=>Nv s (pJ (MG G fr ps.toList) (MY P t n))
def azI(t:TypeId)(a:Operand):Sm:=λP G fr s _=>aiO s (oK (evR a G fr) (Lf P s t))
def arO(t:TypeId)(a x:Operand):Sm:=λP G fr s _=>vL (two (AO G fr a) (AO G fr x) (Mn P s t))
def aLO(x:Operand):Sm:=λ_ G fr s _=>wY s (AO G fr x)
def aLL(op:BinOp)(t:TypeId)(x y:Operand)(_:TypeId):Sm:=λP G fr s _=>aiO s (oK (evR x G fr) (λa=>oK (evR y G fr) (λb=>bL P op t x y a b)))
def aSJ(op:UnOp)(_:TypeId)(x:Operand):Sm:=λP G fr s _=>aDR P s (bmA op) (pJ (AO G fr x) Z7)
def azG(src dst:TypeId)(x:Operand):Sm:=λP G fr s _=>Nv s (pJ (AO G fr x) (Te P src dst))
def arJ(t:TypeId)(x:Operand):Sm:=λP G fr s _=>yC t s (AO G fr x) (P.underlying t)
def azH(f:Fn)(first caps:Array Operand):Sm:=λ_ G fr s _=>func1 f s (iH G fr caps.toList) (iH G fr first.toList)
def aLN(_:TypeId)(r:Option Operand):Sm:=λ_ _ _ s _=>sK s r
def azJ(t:TypeId)(l c:Operand):Sm:=λP G fr s _=>aiN (two (AO G fr l) (AO G fr c) (JC P s t))
def arN(t:TypeId)(x:Operand)(lo hi mx:Option Operand):Sm:=λP G fr s _=>arS P s t (pK G fr lo) (pK G fr hi) (pK G fr mx) (AO G fr x)
def ahN(t:TypeId)(x:Operand)(k:Nat):Sm:=λP G fr s _=>aiO s (oK (evR x G fr) λa=>Th P t a k)
def arI(t:TypeId)(x:Operand)(k:Nat):Sm:=λP G fr s _=>Nv s (pJ (AO G fr x) λa=>bP P t a k)
def ahO(t:TypeId)(x i:Operand):Sm:=λP G fr s _=>aiO s (oK (evR x G fr) (λa=>oK (evR i G fr) (λb=>Df P t a b)))
def arK(t:TypeId)(x i:Operand):Sm:=λP G fr s _=>aiO s (oK (evR x G fr) (λa=>oK (evR i G fr) (λb=>aG P t a b)))
def ahP(t:TypeId)(x k:Operand)(ok:Bool):Sm:=λP G fr s _=>Nv s (two (AO G fr x) (AO G fr k) λa b=>IR P s t a b ok)
def arM(t:TypeId)(m k x:Operand):Sm:=λP G fr s _=>vL (three (AO G fr m) (AO G fr k) (AO G fr x) (KT P s t))
def arH(t:TypeId)(m k:Operand):Sm:=λP G fr s _=>aiN (two (AO G fr m) (AO G fr k) (QX P s t))
def ahM(_:TypeId)(m st x:Operand):Sm:=λ_ G fr s _=>vL (three (AO G fr m) (AO G fr st) (AO G fr x) (MZ s))
def aaB(x:Operand)(k:Nat):Sm:=λ_ G fr s _=>Nv s (pJ (AO G fr x) λa=>Tf a k)
def azF(cl:Call):Sm:=λP G fr s o=>mF P G fr s o cl
def arL(x:Operand):Sm:=λ_ G fr _ _=>aRS (AO G fr x)
def aSI:Sm:=λ_ _ _ _ _=>none
def aRQ(op:Op):Sm:=match op with|.move x=>adQ x|.assign x=>adQ x|.pick c a b=>azK c a b|.alloc e=>arF e|.box e x=>aLM e x|.build t ps=>arG t ps|.buildSlice t n ps=>jC t n ps|.load t a=>azI t a|.store t a x=>arO t a x|.nilCheck x=>aLO x|.binOp op t x y z=>aLL op t x y z|.unOp op t x=>aSJ op t x|.convert a b x=>azG a b x|.makeInterface t x=>arJ t x|.makeFunc f a b=>azH f a b|.makeMap t r=>aLN t r|.makeSlice t l c=>azJ t l c|.slice t x lo hi mx=>arN t x lo hi mx|.fieldAddr t x k=>ahN t x k|.field t x k=>arI t x k|.indexAddr t x i=>ahO t x i|.index t x i=>arK t x i|.lookup t x k ok=>ahP t x k ok|.mapUpdate t m k x=>arM t m k x|.insert t m k x=>arM t m k x|.mapEntry t m k=>arH t m k|.entryStore t m st x=>ahM t m st x|.extract x k=>aaB x k|.call cl=>azF cl|.panic x=>arL x|_=>aSI
def alY(ops:Array Oper)(fr:List AV)(g:Option (Nat×Bool)):Bool:=blC (motive:=λ_=>Bool) true (λp=>aHL ops fr (some p)) g
def aRR(r:Rec)(ops:Array Oper)(dst:Option Tmp)(l:List Oper)(fr:List AV):Option Rs->Option Rs
 |some (.call c s)=>(match c with|.ret v=>r (.ops ops l (aOD fr dst v) s)|.pan v=>some (.code (.pan v) fr s))
 |_=>none
def adS(P:Program)(G:AP)(r:Rec)(fr:List AV)(s:AS)(o:Oper)(b:Bool):Option Rs:=Bool.rec (motive:=λ_=>Option Rs) (some (.call (.ret (.sc undef)) s)) (opK r s (aRQ o.op P G fr s o)) b
def arX(P:Program)(G:AP)(r:Rec)(ops:Array Oper)(fr:List AV)(s:AS)(l:List Oper):Option Rs:=bmB (motive:=λ_=>Option Rs) (some (.code .normal fr s)) (λo l _=>aRR r ops o.dst l fr (adS P G r fr s o (alY ops fr o.guard))) l
abbrev Ss:=Program->AP->Rec->List AV->AS->Option Rs
def aLU:Ss:=λ_ _ _ fr s=>some (.code .normal fr s)
def aLS(id:Nat):Ss:=λ_ _ _ fr s=>some (.code (.exit id) fr s)
def aSL:Ss:=λ_ _ _ fr s=>some (.code .ret fr s)
def aSM(x y:Code):Ss:=λ_ _ r fr s=>aYQ r y (r (.code x fr s))
def aLR(q:Operand)(x y:Code):Ss:=λ_ G r fr s=>aOO r x y fr s (AO G fr q)
def azN(id:Nat)(c:Code):Ss:=λ_ _ r fr s=>aGN id (r (.code c fr s))
def aLT(c:Code):Ss:=λ_ _ r fr s=>aCM (r (.loop c fr s))
def arV(_:Nat)(ops:Array Oper)(d:Bool):Ss:=λP G r fr s=>ayP P G r ops fr s d
def aYS:Ss:=λ_ _ _ _ _=>none
def avC(c:Code):Ss:=match c with|.skip=>aLU|.exit id=>aLS id|.ret=>aSL|.seq x y=>aSM x y|.cond q x y=>aLR q x y|.block id c=>azN id c|.loop c=>aLT c|.region id ops d=>arV id ops d|_=>aYS
def XG(P:Program)(G:AP)(X:aNV)(H:Vp)(r:Rec):Tk->Option Rs
 |.code c fr s=>avC c P G r fr s
 |.loop c fr s=>aRG r c (r (.code c fr s))
 |.ops ops l fr s=>arX P G r ops fr s l
 |.draw ops l fr s q=>arW r ops fr s q l
 |.op ops o fr s=>adS P G r fr s o (alY ops fr o.guard)
 |.call f args s=>aUJ P H r f args s (X f args s)
end AI
namespace AI
open Go Go.RowKit
mutual
def plain:AV->Bool
 |.sc _=>true
 |.agg cs=>BN cs
 |.DW cs=>BN cs
 |.sl o _ cs=>(match o with | .row _ _=>false | _=>true)&&BN cs
 |.ifc _ v=>plain v
 |.el cs=>BN cs
 |.fn _ a b=>BN a&&BN b
 |.any=>true
 |_=>false
def BN:List AV->Bool
 |[]=>true
 |a::l=>plain a&&BN l
end
section
variable {c c':Cx}{w w':World}
mutual
def Rp.plain(hv:∀g i v,RI c w g i v->RI c' w' g i v):∀{a:AV}{v:Value},AI.plain a=true->Rp c w a v->Rp c' w' a v:=by
 intro a v hp h;cases h with
 |sc h1=>exact .sc h1
 |agg h1=>exact .agg (CF.plain hv hp h1)
 |DW h1=>exact .DW (CF.plain hv hp h1)
 |@sl0 own A cap h1=>
  simp only[AI.plain,aUR] at hp;cases own with|full=>exact .sl0 h1|nil=>exact .sl0 h1|nn=>exact .sl0 h1|zero=>exact .sl0 h1|lost=>exact .sl0 h1|row r sz=>cases hp.1
 |@MT own n cap g o cs hn h1 ho=>
  simp only[AI.plain,aUR] at hp;refine .MT hn (A7.plain hv hp.2 h1) ?_;cases own with|full=>exact ho|nil=>exact ho|nn=>exact ho|zero=>exact ho|lost=>trivial|row r sz=>cases hp.1
 |OG hn h1=>cases hp
 |el h1=>exact .el (A7.plain hv hp h1)
 |ptr h1=>cases hp
 |fn h1 h2=>
  simp only[AI.plain,aUR] at hp;exact .fn (CF.plain hv hp.1 h1) (CF.plain hv hp.2 h2)
 |ifc h1=>exact .ifc (Rp.plain hv hp h1)
 |mp h1=>cases hp
 |any h1=>exact .any h1
 |raw=>first | (cases hp;done) | exact .raw
def CF.plain(hv:∀g i v,RI c w g i v->RI c' w' g i v):∀{a:List AV}{v:List Value},AI.BN a=true->CF c w a v->CF c' w' a v:=by
 intro a v hp h;cases h with
 |nil=>exact .nil
 |cons h1 t=>
  simp only[AI.BN,aUR] at hp;exact .cons (Rp.plain hv hp.1 h1) (CF.plain hv hp.2 t)
def A7.plain(hv:∀g i v,RI c w g i v->RI c' w' g i v):∀{a:List AV}{g o:Nat},AI.BN a=true->A7 c w g o a->A7 c' w' g o a:=by
 intro a g o hp h;cases h with
 |nil=>exact .nil
 |cons hvv h1 t=>
  simp only[AI.BN,aUR] at hp;exact .cons (hv _ _ _ hvv) (Rp.plain hv hp.1 h1) (A7.plain hv hp.2 t)
end
end
def s0:AS:=⟨[],0,[],0⟩
end AI
namespace AI
open Go Go.RowKit
mutual
def under(n m:Nat):AV->Bool
 |.sc _=>true
 |.agg cs=>FF n m cs
 |.DW cs=>FF n m cs
 |.sl o _ cs=>(match o with | .row r _=>decide (r < m) | _=>true)&&FF n m cs
 |.OG id _ _=>decide (id < n)
 |.el cs=>FF n m cs
 |.ptr id _=>decide (id < n)
 |.fn _ a b=>FF n m a&&FF n m b
 |.ifc _ v=>under n m v
 |.mp id=>decide (id < n)
 |.any=>true
 |.raw _ _ _=>true
def FF(n m:Nat):List AV->Bool
 |[]=>true
 |a::l=>under n m a&&FF n m l
end
mutual
def Qe(n m:Nat):∀{a:AV},plain a=true->under n m a=true
 |.sc _,_=>rfl
 |.agg cs,h=>by simp only[plain] at h;simp only[under];exact Ei n m h
 |.DW cs,h=>by simp only[plain] at h;simp only[under];exact Ei n m h
 |.sl o k cs,h=>by
  simp only[plain,aUR] at h;simp only[under,aUR];refine⟨?_,Ei n m h.2⟩;cases o with|row r sz=>cases h.1|_=>rfl
 |.OG _ _ _,h=>by cases h
 |.el cs,h=>by simp only[plain] at h;simp only[under];exact Ei n m h
 |.ptr _ _,h=>by cases h
 |.fn _ a b,h=>by
  simp only[plain,aUR] at h;simp only[under,aUR];exact⟨Ei n m h.1,Ei n m h.2⟩
 |.ifc _ v,h=>by simp only[plain] at h;simp only[under];exact Qe n m h
 |.mp _,h=>by cases h
 |.any,_=>rfl
 |.raw _ _ _,_=>rfl
def Ei(n m:Nat):∀{l:List AV},BN l=true->FF n m l=true
 |[],_=>rfl
 |a::l,h=>by
  simp only[BN,aUR] at h;simp only[FF,aUR];exact⟨Qe n m h.1,Ei n m h.2⟩
end
def Cx.upto(c:Cx)(n m:Nat):Cx:=⟨c.base,c.CG.take n,c.rows.take m,c.bad⟩
def Eb{α:Type}{l:List α}{n i:Nat}{x:α}(h:(l.take n)[i]?=some x):l[i]?=some x/\i < n:=by rw[beD] at h;split at h;rename_i hi;exact⟨h,hi⟩;cases h
def Sy{α:Type}{l:List α}{n i:Nat}{x:α}(h:l[i]?=some x)(hi:i < n):(l.take n)[i]?=some x:=by rw[beD,if_pos hi];exact h
section
variable {c:Cx}{w:World}{n m:Nat}
def arQ{g i:Nat}(h:(c.upto n m).uQ g i):c.uQ g i:=by
 rcases h with h | ⟨r,n,cap,sz,hr,h⟩ | h
 exact .inl (bcN h);exact .inr (.inl ⟨r,n,cap,sz,(Eb hr).1,h⟩);exact .inr (.inr h)
def XP{g i:Nat}{v:Value}(h:RI c w g i v):RI (c.upto n m) w g i v:=⟨h.1,λhs=>h.2.1 (arQ hs),h.2.2⟩
mutual
def Rp.upto:∀{a:AV}{v:Value},under n m a=true->Rp c w a v->Rp (c.upto n m) w a v:=by
 intro a v hp h;cases h with
 |sc h1=>exact .sc h1
 |agg h1=>exact .agg (CF.upto hp h1)
 |DW h1=>exact .DW (CF.upto hp h1)
 |@sl0 own A cap h1=>
  simp only[AI.under,aUR] at hp;cases own with
  |full=>exact .sl0 h1
  |nil=>exact .sl0 h1
  |nn=>exact .sl0 h1
  |zero=>exact .sl0 h1
  |lost=>exact .sl0 trivial
  |row r sz=>
   have hr:r < m:=of_decide_eq_true hp.1;refine .sl0 ⟨h1.1,?_,h1.2.2⟩;have:=h1.2.1;simp only[Cx.upto,bbT];omega
 |@MT own k cap g o cs hn h1 ho=>
  simp only[AI.under,aUR] at hp;refine .MT hn (A7.upto hp.2 h1) ?_;cases own with
  |full=>exact ho
  |nil=>exact ho
  |nn=>exact ho
  |zero=>exact ho
  |lost=>trivial
  |row r sz=>
   have hr:r < m:=of_decide_eq_true hp.1;refine⟨ho.1,ho.2.1,?_,λe=>ho.2.2.2.1 (Eb e).1,λg' n' c' s' e=>ho.2.2.2.2 g' n' c' s' (Eb e).1⟩;have:=ho.2.2.1;simp only[Cx.upto,bbT];omega
 |OG hn h1=>exact .OG hn (Sy h1 (of_decide_eq_true hp))
 |el h1=>exact .el (A7.upto hp h1)
 |ptr h1=>exact .ptr (Sy h1 (of_decide_eq_true hp))
 |fn h1 h2=>
  simp only[AI.under,aUR] at hp;exact .fn (CF.upto hp.1 h1) (CF.upto hp.2 h2)
 |ifc h1=>exact .ifc (Rp.upto hp h1)
 |mp h1=>exact .mp (Sy h1 (of_decide_eq_true hp))
 |any h1=>exact .any h1
 |raw=>exact .raw
def CF.upto:∀{a:List AV}{v:List Value},FF n m a=true->CF c w a v->CF (c.upto n m) w a v:=by
 intro a v hp h;cases h with
 |nil=>exact .nil
 |cons h1 t=>
  simp only[AI.FF,aUR] at hp;exact .cons (Rp.upto hp.1 h1) (CF.upto hp.2 t)
def A7.upto:∀{a:List AV}{g o:Nat},FF n m a=true->A7 c w g o a->A7 (c.upto n m) w g o a:=by
 intro a g o hp h;cases h with
 |nil=>exact .nil
 |cons hvv h1 t=>
  simp only[AI.FF,aUR] at hp;exact .cons (XP hvv) (Rp.upto hp.1 h1) (A7.upto hp.2 t)
end
end
def WI:AV->Bool
 |.sc v=>aH v
 |_=>true
def Vx{c:Cx}{w:World}{a:AV}{v:Value}(h:Rp c w a v)(hd:WI a=true):aH v=true:=by cases h<;>first | rfl | exact hd | assumption | (cases hd;done)
def aaL:AV->AV
 |.sl _ n cs=>.sl .lost n cs
 |a=>a
inductive Fg(n m:Nat):List AV->List AV->Prop where
 |nil:Fg n m [] []
 |UN {a:AV}{l k:List AV} (h:under n m a=true) (t:Fg n m l k):Fg n m (a::l) (a::k)
 |drop {a:AV}{l k:List AV} (h:WI a=true) (t:Fg n m l k):Fg n m (a::l) (.any::k)
 |lost {o:Own}{j:Nat}{cs l k:List AV} (h:FF n m cs=true) (t:Fg n m l k):Fg n m (.sl o j cs::l) (.sl .lost j cs::k)
def Fg.ok{n m:Nat}{l k:List AV}(h:Fg n m l k){c:Cx}{w:World}{vs:List Value}(hr:CF c w l vs):CF (c.upto n m) w k vs:=by
 induction h generalizing vs with
 |nil=>cases hr;exact .nil
 |UN h _ ih=>cases hr with | cons h1 t=>exact .cons (h1.upto h) (ih t)
 |drop h _ ih=>cases hr with | cons h1 t=>exact .cons (.any (Vx h1 h)) (ih t)
 |@lost o j cs l k h _ ih=>
  cases hr with
  |cons h1 t=>
   refine .cons ?_ (ih t);cases h1 with|sl0 _=>exact .sl0 trivial|MT hn hc ho=>exact .MT hn (hc.upto h) trivial
def XM(n m:Nat):List (Value×AV×Nat)->Bool
 |[]=>true
 |e::l=>under n m e.2.1&&XM n m l
def gA(n m:Nat):AF->Bool
 |.cells cs=>FF n m cs
 |.map es _=>XM n m es
 |.Fk _ id cs=>decide (id < n)&&FF n m cs
def Mb.upto{c:Cx}{w:World}{n m:Nat}:∀{es:List (Value×AV×Nat)}{fs:List MapEntry},XM n m es=true->Mb c w es fs->Mb (c.upto n m) w es fs:=by
 intro es
 induction es with
 |nil=>intro fs _ h;cases h;exact .nil
 |cons e es ih=>
  intro fs hu h;obtain⟨x,a,b⟩:=e;simp only[XM,aUR] at hu;cases h with | cons h1 t=>exact .cons (h1.upto hu.1) (ih hu.2 t)
def Ep.upto{c:Cx}{w:World}{n m:Nat}{b:AF}{o:Obj}(hb:gA n m b=true)(h:Ep c w b o):Ep (c.upto n m) w b o:=by
 cases h with
 |Ik ext h1=>exact .Ik ext (h1.upto hb)
 |map h1=>exact .map (h1.upto hb)
 |@Fk cs vs T id p hp h1=>
  have hb:=Bool.and_eq_true_iff.1 (show(decide (id < n)&&FF n m cs)=true from hb);exact .Fk (hp.imp _root_.id λk=>k.upto (a:=.ptr id 0) hb.1) (h1.upto hb.2)
def Fits(n m:Nat)(a b:AV):Prop:=∀(c:Cx)(w:World)(v:Value),Rp c w a v->Rp (c.upto n m) w b v
def Kv(n m:Nat)(a b:List AV):Prop:=∀(c:Cx)(w:World)(v:List Value),CF c w a v->CF (c.upto n m) w b v
def bH(n m:Nat)(a b:List AV):Prop:=∀(c:Cx)(w:World)(g o:Nat),A7 c w g o a->A7 (c.upto n m) w g o b
def SD(n m:Nat)(a b:AF):Prop:=∀(c:Cx)(w:World)(o:Obj),Ep c w a o->Ep (c.upto n m) w b o
def Fits.under{n m:Nat}{a:AV}(h:AI.under n m a=true):Fits n m a a:=λ_ _ _ hr=>hr.upto h
def Kv.under{n m:Nat}{a:List AV}(h:AI.FF n m a=true):Kv n m a a:=λ_ _ _ hr=>hr.upto h
def bH.under{n m:Nat}{a:List AV}(h:AI.FF n m a=true):bH n m a a:=λ_ _ _ _ hr=>hr.upto h
def SD.under{n m:Nat}{b:AF}(h:gA n m b=true):SD n m b b:=λ_ _ _ hr=>hr.upto h
def Fits.plain{n m:Nat}{a:AV}(h:AI.plain a=true):Fits n m a a:=.under (Qe n m h)
def Kv.plain{n m:Nat}{a:List AV}(h:BN a=true):Kv n m a a:=.under (Ei n m h)
def bH.plain{n m:Nat}{a:List AV}(h:BN a=true):bH n m a a:=.under (Ei n m h)
def Fits.drop{n m:Nat}{a:AV}(h:WI a=true):Fits n m a .any:=λ_ _ _ hr=>.any (Vx hr h)
def Fits.agg{n m:Nat}{a b:List AV}(h:Kv n m a b):Fits n m (.agg a) (.agg b):=λ_ _ _ hr=>by cases hr with | agg h1=>exact .agg (h _ _ _ h1)
def Fits.DW{n m:Nat}{a b:List AV}(h:Kv n m a b):Fits n m (.DW a) (.DW b):=λ_ _ _ hr=>by cases hr with | DW h1=>exact .DW (h _ _ _ h1)
def Kv.nil{n m:Nat}:Kv n m [] []:=λ_ _ _ hr=>by cases hr;exact .nil
def Kv.cons{n m:Nat}{a b:AV}{l k:List AV}(h:Fits n m a b)(t:Kv n m l k):Kv n m (a::l) (b::k):=λ_ _ _ hr=>by cases hr with | cons h1 t1=>exact .cons (h _ _ _ h1) (t _ _ _ t1)
def bH.cons{n m:Nat}{a b:AV}{l k:List AV}(h:Fits n m a b)(t:bH n m l k):bH n m (a::l) (b::k):=λ_ _ _ _ hr=>by cases hr with | cons hv h1 t1=>exact .cons (XP hv) (h _ _ _ h1) (t _ _ _ _ t1)
def SD.cells{n m:Nat}{a b:List AV}(h:Kv n m a b):SD n m (.cells a) (.cells b):=λ_ _ _ hr=>by cases hr with | Ik ext h1=>exact .Ik ext (h _ _ _ h1)
def avV{G:AP}(hG:∀g cs,G g=some cs->BN cs=true){s s' s2:AS}{Cj G5:List AV}(hn:s2.nx=s.nx)(hr:s2.nr=s.nr)
   (hd:Kr s2.h s2.nx) (aHV:∀id b,look id s2.h=some b->∃b',look id s'.h=some b'/\SD s.nx s.nr b' b) (hF:∀r n,DT r s2.F=some n->DT r s'.F=some n/\r < s.nr)
   (hf:Kv s.nx s.nr Cj G5) (cx:Cx) (w:World) (c':Cx) (w':World) (vs:List Value) (hx:Ext cx w c' w') (hs:St G cx w s) (hs':St G c' w' s') (Qq:CF c' w' Cj vs):
   ∃c2,Ext cx w c2 w'/\St G c2 w' s2/\CF c2 w' G5 vs:=by
 have SQ:c'.CG.take s.nx=cx.CG:=by obtain⟨t,ht⟩:=hx.CG;rw[<- ht,hs.len,List.take_left]
 have hrl:(c'.rows.take s.nr).length=cx.rows.length:=by have:=hx.IG;rw[bbT,hs.IG];omega
 refine⟨c'.upto s.nx s.nr,⟨?_,?_,λr x hO h=>?_,λg i v hv=>XP (hx.jG g i v hv),hx.below,hx.base,hx.bad,λg hg=>hx.eQ g (bcN hg),λr g n cap sz h=>hx.fJ r g n cap sz (Eb h).1,hx.UN⟩,?_,hf _ _ _ Qq⟩;show cx.CG <+: c'.CG.take s.nx;rw[SQ];exact bdT _;show cx.rows.length<=(c'.rows.take s.nr).length;omega;exact hx.rows r x hO (Eb h).1;refine⟨?_,hd,λi j g h1 h2=>hs'.nodup i j g (Eb h1).1 (Eb h2).1,λg hg=>hs'.low g (bcN hg),λid g b h1 h2=>?_,?_,λr g n cap sz h=>?_,λr n h=>?_,λg hg=>hs'.NM g (bcN hg),hs'.Nz,λr r' g n cap sz n' cap' OI h h'=>hs'.H7 r r' g n cap sz n' cap' OI (Eb h).1 (Eb h').1,λg cs hg=>(hs'.Mr g cs hg).upto (Ei _ _ (hG g cs hg)),hs'.RU,hs'.Od.sub (λg hm=>bcN hm) λr g n cap sz e=>⟨r,n,cap,sz,(Eb e).1⟩⟩;show s2.nx=(c'.CG.take s.nx).length;rw[SQ,hn,hs.len];obtain⟨b',h3,h4⟩:=aHV id b h2;obtain⟨o,ho,hb⟩:=hs'.box id g b' (Eb h1).1 h3;exact⟨o,ho,h4 _ _ _ hb⟩;show s2.nr=(c'.rows.take s.nr).length;rw[hrl,hr,hs.IG];obtain⟨a1,a2,a3,a4⟩:=hs'.row r g n cap sz (Eb h).1;exact⟨a1,a2,λhm=>a3 (bcN hm),a4⟩;obtain⟨h1,h2⟩:=hF r n h;rcases hs'.H8 r n h1 with ⟨h3,h4⟩ | ⟨g,cap,sz,h3⟩
 exact .inl ⟨Sy h3 h2,h4⟩;exact .inr ⟨g,cap,sz,Sy h3 h2⟩
end AI
namespace AI
open Go Go.RowKit
section
variable {P:Program}{G:AP}{X:XX}{H:Vp}
def W(P:Program)(G:AP)(X:XX)(H:Vp)(c:Code)(fr:List AV)(s:AS)(Q:AX->List AV->AS->Prop):Prop:=∃e Cj s',J P G X H (.code c fr s e Cj s')/\Q e Cj s'
def WL(P:Program)(G:AP)(X:XX)(H:Vp)(c:Code)(fr:List AV)(s:AS)(Q:AX->List AV->AS->Prop):Prop:=∃e Cj s',J P G X H (.loop c fr s e Cj s')/\Q e Cj s'
def WC(P:Program)(G:AP)(X:XX)(H:Vp)(f:FuncId)(args:List AV)(s:AS)(Q:CR->AS->Prop):Prop:=∃r s',J P G X H (.call f args s r s')/\Q r s'
def aEF(P:Program)(G:AP)(X:XX)(H:Vp)(y:Code)(Q:AX->List AV->AS->Prop):AX->List AV->AS->Prop
 |.normal,fr,s=>W P G X H y fr s Q
 |e,fr,s=>Q e fr s
def EE(id:Nat)(Q:AX->List AV->AS->Prop):AX->List AV->AS->Prop:=λe fr s=>Q (FR id e) fr s
def aDI(P:Program)(G:AP)(X:XX)(H:Vp)(c:Code)(Q:AX->List AV->AS->Prop):AX->List AV->AS->Prop
 |.normal,fr,s=>WL P G X H c fr s Q
 |e,fr,s=>Q e fr s
def PV(P:Program)(fn:Func)(n:Nat)(Q:CR->AS->Prop):AX->List AV->AS->Prop
 |.normal,fr,s=>∃v,I5 P s fn fr=some v/\Q (.ret v) (s.cut n)
 |.ret,fr,s=>∃v,I5 P s fn fr=some v/\Q (.ret v) (s.cut n)
 |.pan v,_,s=>Q (.pan v) (s.cut n)
 |_,_,_=>False
def aNZ{x y:Code}{fr:List AV}{s:AS}{Q:AX->List AV->AS->Prop}(h:W P G X H x fr s (aEF P G X H y Q)):W P G X H (.seq x y) fr s Q:=by
 obtain⟨e,Wr,s1,h1,h2⟩:=h;cases e with
 |normal=>
  obtain⟨e2,G5,s2,h3,h4⟩:=h2;exact⟨e2,G5,s2,.seq h1 h3,h4⟩
 |exit id=>exact⟨_,_,_,.aaC h1 (by simp),h2⟩
 |ret=>exact⟨_,_,_,.aaC h1 (by simp),h2⟩
 |pan v=>exact⟨_,_,_,.aaC h1 (by simp),h2⟩
def auH{q:Operand}{x y:Code}{fr:List AV}{s:AS}{Q:AX->List AV->AS->Prop}(hq:A3 G fr q=some (.sc (.bool true)))(h:W P G X H x fr s Q):W P G X H (.cond q x y) fr s Q:=by obtain⟨e,Wr,s1,h1,h2⟩:=h;exact⟨e,Wr,s1,.cond hq h1,h2⟩
def auG{q:Operand}{x y:Code}{fr:List AV}{s:AS}{Q:AX->List AV->AS->Prop}(hq:A3 G fr q=some (.sc (.bool false)))(h:W P G X H y fr s Q):W P G X H (.cond q x y) fr s Q:=by obtain⟨e,Wr,s1,h1,h2⟩:=h;exact⟨e,Wr,s1,.cond hq h1,h2⟩
def mE{id:Nat}{c:Code}{fr:List AV}{s:AS}{Q:AX->List AV->AS->Prop}(h:W P G X H c fr s (EE id Q)):W P G X H (.block id c) fr s Q:=by obtain⟨e,Wr,s1,h1,h2⟩:=h;exact⟨_,Wr,s1,.block h1,h2⟩
def ajF{c:Code}{fr:List AV}{s:AS}{Q:AX->List AV->AS->Prop}(h:W P G X H c fr s Q):W P G X H (.scope c) fr s Q:=by obtain⟨e,Wr,s1,h1,h2⟩:=h;exact⟨_,Wr,s1,.alX h1,h2⟩
def ajG{c:Code}{fr:List AV}{s:AS}{Q:AX->List AV->AS->Prop}(h:WL P G X H c fr s Q):W P G X H (.loop c) fr s Q:=by obtain⟨e,Wr,s1,h1,h2⟩:=h;exact⟨_,Wr,s1,.loop h1,h2⟩
def abD{c:Code}{fr:List AV}{s:AS}{Q:AX->List AV->AS->Prop}(h:W P G X H c fr s (aDI P G X H c Q)):WL P G X H c fr s Q:=by
 obtain⟨e,Wr,s1,h1,h2⟩:=h;cases e with
 |normal=>
  obtain⟨e2,G5,s2,h3,h4⟩:=h2;exact⟨e2,G5,s2,.aoQ h1 h3,h4⟩
 |exit id=>exact⟨_,_,_,.eD h1 (by simp),h2⟩
 |ret=>exact⟨_,_,_,.eD h1 (by simp),h2⟩
 |pan v=>exact⟨_,_,_,.eD h1 (by simp),h2⟩
def drop_cons{α:Type}{o:α}{l m:List α}{k:Nat}(h:o::l=m.drop k):m[k]?=some o/\l=m.drop (k+1):=by
 constructor;have:=congrArg (λx=>x[0]?) h;simpa using this.symm
 have:=congrArg List.tail h;rw[List.tail_drop] at this;exact this
def aE{f:FuncId}{fn:Func}{c:Code}{args:List AV}{s:AS}{Q:CR->AS->Prop}(hf:P.funcs[f]?=some fn)(hb:fn.body=some c)(h:W P G X H c (args++bdF (fn.ntmps - args.length) (.sc undef)) s (PV P fn s.nx Q)):WC P G X H f args s Q:=by
 obtain⟨e,Wr,s1,h1,h2⟩:=h;cases e with
 |normal=>obtain⟨v,h3,h4⟩:=h2;exact⟨_,_,.body hf hb h1 (.inl rfl) h3 (.inl rfl),h4⟩
 |ret=>obtain⟨v,h3,h4⟩:=h2;exact⟨_,_,.body hf hb h1 (.inr rfl) h3 (.inl rfl),h4⟩
 |pan v=>exact⟨_,_,.YY hf hb h1,h2⟩
 |exit id=>exact h2.elim
end
end AI
namespace AI
open Go Go.RowKit
abbrev XS(P:Program)(G:AP):XX:=λf args s r s'=>Sound P G (.call f args s r s')
def H0:Vp:=λ_ _=>none
def VD{P:Program}{G:AP}(h:P.follows .mixedOrders=true):aCA P G (XS P G) H0:=⟨h,λ_ _ _ _ _ h=>h,λ_ _ _ _ _ h=>by cases h⟩
def Pure(P:Program)(G:AP)(f:FuncId)(args:List AV)(v:AV):Prop:=∀s,Sound P G (.call f args s (.ret v) s)
def rows{α:Type}(f:α->List AV)(l:List α):List AV:=l.flatMap f
def lD{α:Type}{f:α->List AV}{k:Nat}(hf:∀x,(f x).length=k){l:List α}{i:Nat}{x:α}(h:l[i]?=some x):(rows f l).drop (i*k)=f x++rows f (l.drop (i+1)):=by
 induction l generalizing i with
 |nil=>simp at h
 |cons y l ih=>
  cases i with
  |zero=>simp at h;subst h;simp[rows]
  |succ i=>
   have:=ih (i:=i) (by simpa using h)
   have e:rows f (y::l)=f y++rows f l:=by simp[rows]
   rw[e,List.drop_append,hf y,show(i+1)*k - k=i*k by rw[bdL];omega,List.drop_eq_nil_of_le (by rw[hf y,bdL];omega),List.nil_append,this];simp
def Ps{α:Type}{f:α->List AV}{k:Nat}(hf:∀x,(f x).length=k)(l:List α):(rows f l).length=l.length*k:=by
 induction l with
 |nil=>simp[rows]
 |cons y l ih=>
  have e:rows f (y::l)=f y++rows f l:=by simp[rows]
  rw[e,cZ,hf y,ih,amN,bdL];omega
def T8{α:Type}(f:α->List AV)(l m:List α):rows f (l++m)=rows f l++rows f m:=by simp[rows]
def Hc{α:Type}(f:α->List AV)(x:α)(m:List α):rows f (x::m)=f x++rows f m:=by simp[rows]
def zV{α:Type}{f:α->List AV}{l:List α}(h:∀x∈l,BN (f x)=true):BN (rows f l)=true:=by
 have X1:∀a b:List AV,BN a=true->BN b=true->BN (a++b)=true:=by
  intro a b ha hb
  induction a with
  |nil=>exact hb
  |cons x a ih=>
   simp only[BN,aUR,List.cons_append] at ha ⊢;exact⟨ha.1,ih ha.2⟩
 induction l with|nil=>rfl|cons y l ih=>rw[Hc];exact X1 _ _ (h y bbU) (ih λx hx=>h x (bbP _ hx))
def yE{P:Program}{α:Type}{f:α->List AV}{k:Nat}{t elem:TypeId}{e:TypeInfo}(hu:P.underlying t=some (.slice elem))(he:P.info? elem=some e)(hk:e.size=k)(hf:∀x,(f x).length=k){own:Own}{l:List α}{i:Nat}{x:α}(h:l[i]?=some x) :
   Df P t (.sl own l.length (rows f l)) (.sc (.int .i64 (i:Int)))=some (.el (f x++rows f (l.drop (i+1)))):=by
 have hi:=(aHS.1 h).1
 have hn:UH (.sc (.int .i64 (i:Int)))=some i:=by unfold UH;simp
 unfold Df;rw[hu,hn];simp only[he,hk,if_pos hi,lD hf h]
def atZ{i:Nat}(h:i<=9223372036854775807):beR.wrap (i:Int)=(i:Int):=by refine bgM _ ?_;omega
end AI
namespace AI
open Go Go.RowKit
section
variable {G:AP}
inductive NZ where
 |t (tmp sz:Nat)
 |b (id i sz:Nat)
 |l (tmp:Nat)
 |lb (id i:Nat)
def apH(sz:Nat):AV->Bool
 |.sl .full n cs=>(match sz with | 0=>false | _=>(match n with | 0=>(match cs with | []=>true | _=>false) | _=>false))
 |.sl .zero n cs=>(match n with | 0=>(match cs with | []=>true | _=>false) | _=>false)
 |_=>false
def nz1(fr:List AV)(s:AS):NZ->Option (List AV×AS)
 |.t k sz=>(match fr[k]? with
  |some a=>(match apH sz a with|true=>some (fr.set k (.sl (.row s.nr sz) 0 []),s.tok)|false=>none)
  |none=>none)
 |.b id i sz=>(match look id s.h with
  |some (.cells cs)=>(match cs[i]? with
   |some a=>(match apH sz a with|true=>some (fr,⟨wH id (.cells (cs.set i (.sl (.row s.nr sz) 0 []))) s.h,s.nx,(s.nr,0)::s.F,s.nr+1⟩)|false=>none)
   |none=>none)
  |some (.Fk B j cs)=>(match i with
   |0=>none
   |i+1=>(match cs[i]? with
    |some a=>(match apH sz a with|true=>some (fr,⟨wH id (.Fk B j (cs.set i (.sl (.row s.nr sz) 0 []))) s.h,s.nx,(s.nr,0)::s.F,s.nr+1⟩)|false=>none)
    |none=>none))
  |_=>none)
 |.l k=>(match fr[k]? with|some a=>some (fr.set k (aaL a),s)|none=>none)
 |.lb id i=>(match look id s.h with
  |some (.cells cs)=>(match cs[i]? with|some a=>some (fr,⟨wH id (.cells (cs.set i (aaL a))) s.h,s.nx,s.F,s.nr⟩)|none=>none)
  |_=>none)
def nzs:List NZ->List AV->AS->Option (List AV×AS)
 |[],fr,s=>some (fr,s)
 |z::l,fr,s=>(match nz1 fr s z with|some (fr,s)=>nzs l fr s|none=>none)
def Wkn(G:AP)(fr:List AV)(s:AS)(G5:List AV)(s2:AS):Prop:=∀(cx:Cx)(w:World)(vs:List Value),St G cx w s->CF cx w fr vs->∃cx2,Ext cx w cx2 w/\St G cx2 w s2/\CF cx2 w G5 vs
def Wkn.refl{fr:List AV}{s:AS}:Wkn G fr s fr s:=λcx w vs h1 h2=>⟨cx,Ext.refl _ _,h1,h2⟩
def Wkn.trans{fr G5 fr3:List AV}{s s2 s3:AS}(h:Wkn G fr s G5 s2)(k:Wkn G G5 s2 fr3 s3):Wkn G fr s fr3 s3:=λcx w vs h1 h2=>by
 obtain⟨c2,x2,s2,r2⟩:=h cx w vs h1 h2;obtain⟨c3,x3,s3,r3⟩:=k c2 w vs s2 r2;exact⟨c3,x2.trans x3,s3,r3⟩
def oE{a:AV}{c:Cx}{w:World}{v:Value}{r sz:Nat}(h:apH sz a=true)(hr:Rp c w a v)(hl:r < c.rows.length):Rp c w (.sl (.row r sz) 0 []) v:=by
 unfold apH at h;split at h
 ·split at h
  cases h
  ·rename_i hz
   split at h
   ·split at h
    ·cases hr with
     |sl0 h0=>exact .sl0 ⟨h0,hl,λe=>absurd e hz⟩
     |MT hn hc ho=>
      have:_=0:=ho;subst this;exact .sl0 ⟨rfl,hl,λe=>absurd e hz⟩
    cases h
   cases h
 split at h;split at h;cases hr with|sl0 h0=>exact .sl0 ⟨h0.1,hl,λ_=>h0.2⟩|MT hn hc ho=>exact ho.elim
 cases h;cases h;cases h
def lL{a:AV}{c:Cx}{w:World}{v:Value}(hr:Rp c w a v):Rp c w (aaL a) v:=by cases hr with|sl0 _=>exact .sl0 trivial|MT hn hc ho=>exact .MT hn hc trivial|sc h=>exact .sc h|agg h=>exact .agg h|DW h=>exact .DW h|OG h1 h2=>exact .OG h1 h2|el h=>exact .el h|ptr h=>exact .ptr h|fn h1 h2=>exact .fn h1 h2|ifc h=>exact .ifc h|mp h=>exact .mp h|any h=>exact .any h|raw=>exact .raw
def CF.arP{c:Cx}{w:World}{as:List AV}{vs:List Value}(h:CF c w as vs){i:Nat}{a b:AV}(ha:as[i]?=some a)(hb:∀v,Rp c w a v->Rp c w b v):CF c w (as.set i b) vs:=by
 induction as generalizing vs i with
 |nil=>simp at ha
 |cons x as ih=>
  cases h with
  |cons h1 t=>
   cases i with|zero=>simp at ha;subst ha;exact .cons (hb _ h1) t|succ i=>exact .cons h1 (ih t (by simpa using ha))
def St.aqO{c:Cx}{w:World}{s:AS}(h:St G c w s){id:Nat}{b b2:AF}(hb:look id s.h=some b)(hk:∀o,Ep c w b o->Ep c w b2 o):St G c w ⟨wH id b2 s.h,s.nx,s.F,s.nr⟩ :=
 ⟨h.len,gF h.desc,h.nodup,h.low,λSI g b' h1 h2=>by
  rcases gG h2 with ⟨rfl,rfl⟩ | ⟨_,h3⟩
  obtain⟨o,ho,rQ⟩:=h.box _ g b h1 hb;exact⟨o,ho,hk o rQ⟩;exact h.box SI g b' h1 h3,h.IG,h.row,h.H8,h.NM,h.Nz,h.H7,h.Mr,h.RU,h.Od⟩
def apN{fr G5:List AV}{s s2:AS}{z:NZ}(h:nz1 fr s z=some (G5,s2)):Wkn G fr s G5 s2:=by
 intro cx w vs hs hr;cases z with
 |t k sz=>
  simp only[nz1] at h;split at h;rename_i a ha;split at h;rename_i hn;cases h;obtain⟨x,st⟩:=hs.tok;refine⟨_,x,st,(hr.mono x).arP ha (λv hv=>oE hn hv ?_)⟩;simp[hs.IG];cases h;cases h
 |b id i sz=>
  simp only[nz1] at h;split at h;rename_i cs hb;split at h;rename_i a ha;split at h;rename_i hn;cases h;obtain⟨x,st⟩:=hs.tok;refine⟨_,x,st.aqO (b:=.cells cs) hb (λo ho=>?_),hr.mono x⟩;cases ho with|Ik ext h1=>exact .Ik ext (h1.arP ha (λv hv=>oE hn hv (by simp[hs.IG])))
  cases h;cases h;rename_i B j cs hb;split at h;cases h;split at h;rename_i a ha;split at h;rename_i hn;cases h;obtain⟨x,st⟩:=hs.tok;refine⟨_,x,st.aqO (b:=.Fk B j cs) hb (λo ho=>?_),hr.mono x⟩;cases ho with|Fk hp h1=>exact .Fk hp (h1.arP ha (λv hv=>oE hn hv (by simp[hs.IG])))
  cases h;cases h;cases h
 |l k=>
  simp only[nz1] at h;split at h;rename_i a ha;cases h;exact⟨cx,Ext.refl _ _,hs,hr.arP ha (λv hv=>lL hv)⟩;cases h
 |lb id i=>
  simp only[nz1] at h;split at h;rename_i cs hb;split at h;rename_i a ha;cases h;refine⟨cx,Ext.refl _ _,hs.aqO (b:=.cells cs) hb (λo ho=>?_),hr⟩;cases ho with|Ik ext h1=>exact .Ik ext (h1.arP ha (λv hv=>lL hv))
  cases h;cases h
def apO:∀{l:List NZ}{fr G5:List AV}{s s2:AS},nzs l fr s=some (G5,s2)->Wkn G fr s G5 s2:=by
 intro l
 induction l with
 |nil=>intro fr G5 s s2 h;simp only[nzs] at h;cases h;exact .refl
 |cons z l ih=>
  intro fr G5 s s2 h;simp only[nzs] at h;split at h;rename_i f1 s1 h1;exact(apN h1).trans (ih h);cases h
end
end AI
namespace AI
open Go Go.RowKit
structure Ent where
 f:Nat
 args:List AV
 box:Option (List AV×List AV)
 v:AV
def aiZ(P:Program)(G:AP)(e:Ent):Prop:=match e.box with|none=>∀s,Sound P G (.call e.f e.args s (.ret e.v) s)|some (cs,cs')=>∀s id,s.get id=some (.cells cs)->Sound P G (.call e.f (.ptr id 0::e.args) s (.ret e.v) (s.put id (.cells cs')))
def aZP.cons{P:Program}{G:AP}{e:Ent}{l:List Ent}(he:aiZ P G e)(hl:∀e∈l,aiZ P G e):∀e'∈e::l,aiZ P G e':=λe' h=>by
 rcases bbG.1 h with h | h
 rw[h];exact he;exact hl e' h
end AI
namespace AI
open Go Go.RowKit
inductive Hn where
 |k
 |b (b:Bool)
 |i (z:Int)
 |w (v:AV)
 |a (v:AV) (s:AS)
 |ae (v:AV)
 |af (v:AV)
 |m (s:AS)
 |l (v:AV)
 |s (s:AS)
 |c (v:AV) (s:AS)
 |o (v:AV)
 |z (c:Nat)
 |p (v:AV) (s:AS)
 |g (sz k:Nat) (cs:List AV)
 |u (v:AV) (pre:List (Nat×AF)) (tp:List (Nat×Nat)) (Sz:List (Nat×AF)) (tu:List (Nat×Nat))
 |q (v:AV) (pre:List (Nat×AF)) (tp:List (Nat×Nat)) (Sz:List (Nat×AF)) (tu:List (Nat×Nat))
 |n (l:List NZ)
 |x (b:AF) (v:AV)
 |y (b b2:AF)
 |lb (m:AF) (v:AV)
 |sb (m m2:AF)
 |mb (n:Nat) (m:AF)
 |za
 |zq (c:Nat)
 |cn (v:AV) (h:List (Nat×AF)) (dn:Nat) (F:List (Nat×Nat)) (dr:Nat)
 |f (id:Nat) (b b2:AF)
inductive Cd where
 |eqb (B b:Bool)
 |eqi (X z:Int)
 |idx (t:TypeId) (a b v:AV)
 |bin (op:BinOp) (t:TypeId) (x y:Operand) (a b v:AV)
 |call (f:FuncId) (args:List AV) (s:AS) (v:AV)
 |X1 (s:AS) (t tx:TypeId) (a b v:AV) (s1:AS)
 |ix (t:TypeId) (a b v:AV)
 |lk (s:AS) (t:TypeId) (a b:AV) (ok:Bool) (v:AV)
 |ms (s:AS) (t:TypeId) (a b v:AV) (s1:AS)
 |aCK (f:FuncId) (args:List AV) (s:AS) (v:AV) (s1:AS)
 |ld (s:AS) (t:TypeId) (a v:AV)
 |st (s:AS) (t:TypeId) (a x:AV) (s1:AS)
 |mk (s:AS) (t:TypeId) (a b v:AV) (s1:AS)
 |sli (t:TypeId) (a:AV) (l h m:Option AV) (v:AV)
 |aCJ (f:FuncId) (args:List AV) (s:AS) (v:AV) (s1:AS)
 |pur (f:FuncId) (args:List AV) (v:AV)
 |cU (t tx:TypeId) (own:Own) (n:Nat) (cs:List AV) (b:AV) (sz k:Nat) (cs2:List AV)
 |eqn (k n:Nat)
 |Q4 (f:FuncId) (args:List AV) (r:CR) (pre:List (Nat×AF)) (tp:List (Nat×Nat)) (Sz:List (Nat×AF)) (tu:List (Nat×Nat))
 |eqx (a b:List (Option AF)) (c d:List (Option Nat))
 |lkB (b:AF) (t:TypeId) (k:AV) (ok:Bool) (v:AV)
 |msB (b:AF) (t:TypeId) (k v:AV) (b2:AF)
 |ldB (b:AF) (t:TypeId) (off:Nat) (v:AV)
 |stB (b:AF) (t:TypeId) (off:Nat) (x:AV) (b2:AF)
 |ES (t:TypeId) (a x:AV) (n:Nat) (m:AF)
 |apB (t tx:TypeId) (a b:AV) (n:Nat) (m:AF)
 |jT (f:FuncId) (args:List AV) (nx nr:Nat) (v:AV) (h:List (Nat×AF)) (dn:Nat) (F:List (Nat×Nat)) (dr:Nat)
 |rd (nr:Nat) (b b2:AF)
 |cv (t t2:TypeId) (a v:AV)
 |apf (t tx:TypeId) (a b v:AV)
def AS.YM(s:AS):List (Nat×AF)->AS
 |[]=>s
 |e::l=>(s.put e.1 e.2).YM l
def AS.Ve(s:AS):List (Nat×Nat)->AS
 |[]=>s
 |e::l=>(AS.mk s.h s.nx (ahQ e.1 e.2 s.F) s.nr).Ve l
def cT(s:AS):List (Nat×AF)->List (Option AF)
 |[]=>[]
 |e::l=>s.get e.1::cT s l
def PF:List (Nat×AF)->List (Option AF)
 |[]=>[]
 |e::l=>some e.2::PF l
def jY(F:List (Nat×Nat)):List (Nat×Nat)->List (Option Nat)
 |[]=>[]
 |e::l=>DT e.1 F::jY F l
def Qg:List (Nat×Nat)->List (Option Nat)
 |[]=>[]
 |e::l=>some e.2::Qg l
def Cd.ok(P:Program)(G:AP):Cd->Prop
 |.eqb B b=>B=b
 |.eqi X z=>X=z
 |.idx t a b v=>Df P t a b=some v
 |.bin op t x y a b v=>Md P op t x y a b=some v
 |.call f args s v=>Sound P G (.call f args s (.ret v) s)
 |.X1 s t tx a b v s1=>∃v0,Lx P s t tx a b=some (v0,s1)/\∀c w u,Rp c w v0 u->Rp c w v u
 |.ix t a b v=>Ly P t a b=some v
 |.lk s t a b ok v=>IR P s t a b ok=some v
 |.ms s t a b v s1=>KT P s t a b v=some s1
 |.aCK f args s v s1=>Sound P G (.call f args s (.ret v) s1)
 |.ld s t a v=>Lf P s t a=some v
 |.st s t a x s1=>Mn P s t a x=some s1
 |.mk s t a b v s1=>JC P s t a b=some (v,s1)
 |.sli t a l h m v=>Ml P t a l h m=some v
 |.aCJ f args s v s1=>Sound P G (.call f args s (.pan v) s1)
 |.pur f args v=>∀s,Sound P G (.call f args s (.ret v) s)
 |.cU t tx own n cs b sz k cs2=>∀s:AS,KC sz s.F n own=true->∃cs0,Lx P s t tx (.sl own n cs) b=some (.sl (acV s sz own) k cs0,s.to k own)/\∀c w u o,Rp c w (.sl o k cs0) u->Rp c w (.sl o k cs2) u
 |.eqn k n=>k=n
 |.Q4 f args r pre tp Sz tu=>∀s:AS,cT s pre=PF pre->jY s.F tp=Qg tp->Sound P G (.call f args s r ((s.YM Sz).Ve tu))
 |.eqx a b c d=>a=b/\c=d
 |.lkB b t k ok v=>∀(s:AS)(id:Nat),s.get id=some b->IR P s t (.mp id) k ok=some v
 |.msB b t k v b2=>∀(s:AS)(id:Nat),s.get id=some b->KT P s t (.mp id) k v=some (s.put id b2)
 |.ldB b t off v=>∀(s:AS)(id:Nat),s.get id=some b->Lf P s t (.ptr id off)=some v
 |.stB b t off x b2=>∀(s:AS)(id:Nat),s.get id=some b->Mn P s t (.ptr id off) x=some (s.put id b2)
 |.ES t a x n m=>∀s:AS,∃m0,JC P s t a x=some (.OG s.nx 0 n,s.new m0)/\∀(cx:Cx)(w:World)(o:Obj),Ep cx w m0 o->Ep cx w m o
 |.apB t tx a b n m=>∀s:AS,aNF P G t tx a b s (.OG s.nx 0 n) (s.new m)
 |.jT f args nx nr v h dn F dr=>∀s:AS,s.nx=nx->s.nr=nr->Sound P G (.call f args s (.ret v) ⟨h++s.h,s.nx+dn,F++s.F,s.nr+dr⟩)
 |.apf t tx a b v=>∀s:AS,∃v0,Lx P s t tx a b=some (v0,s)/\∀c w u,Rp c w v0 u->Rp c w v u
 |.cv t t2 a v=>Te P t t2 a=some v
 |.rd nr b b2=>∀(cx:Cx)(w:World)(o:Obj),nr < cx.rows.length->Ep cx w b o->Ep cx w b2 o
def SO(P:Program)(G:AP):List Cd->Prop
 |[]=>True
 |c::l=>c.ok P G/\SO P G l
def SO.X1{P:Program}{G:AP}{l m:List Cd}(h:SO P G (l++m)):SO P G l/\SO P G m:=by induction l with|nil=>exact⟨trivial,h⟩|cons c l ih=>exact⟨⟨h.1,(ih h.2).1⟩,(ih h.2).2⟩
abbrev HO:=Option (AV×AS×List Hn×List Cd)
def LF(s1:Option AR)(hs:List Hn):HO:=match s1 with|some (.val v s)=>some (v,s,hs,[])|_=>none
def aPH(P:Program)(op:BinOp)(t:TypeId)(x y:Operand)(a b:AV)(s:AS):List Hn->HO
 |.k::hs=>(match bL P op t x y a b with|some v=>some (v,s,hs,[])|none=>none)
 |.b c::hs=>(match bL P op t x y a b with|some (.sc (.bool B))=>some (.sc (.bool c),s,hs,[.eqb B c])|_=>none)
 |.i z::hs=>(match bL P op t x y a b with|some (.sc (.int k X))=>some (.sc (.int k z),s,hs,[.eqi X z])|_=>none)
 |.w v::hs=>some (v,s,hs,[.bin op t x y a b v])
 |_=>none
def aPK(P:Program)(t:TypeId)(a b:AV)(s:AS):List Hn->HO
 |.k::hs=>(match Df P t a b with|some v=>some (v,s,hs,[])|none=>none)
 |.w v::hs=>some (v,s,hs,[.idx t a b v])
 |_=>none
def cW(s:AS)(r:Option AR):List Hn->HO
 |.w v::hs=>(match r with|some (.ent f args)=>some (v,s,hs,[.pur f args v])|_=>none)
 |.a v s1::hs=>(match r with|some (.ent f args)=>some (v,s1,hs,[.aCK f args s v s1])|_=>none)
 |.u v pre tp Sz tu::hs=>(match r with|some (.ent f args)=>some (v,(s.YM Sz).Ve tu,hs,[.Q4 f args (.ret v) pre tp Sz tu,.eqx (cT s pre) (PF pre) (jY s.F tp) (Qg tp)])|_=>none)
 |.cn v h dn F dr::hs=>(match r with|some (.ent f args)=>some (v,⟨h++s.h,s.nx+dn,F++s.F,s.nr+dr⟩,hs,[.jT f args s.nx s.nr v h dn F dr])|_=>none)
 |_=>none
def alZ(s:AS)(t tx:TypeId)(a b:AV):List Hn->HO
 |.mb n m::hs=>some (.OG s.nx 0 n,s.new m,hs,[.apB t tx a b n m])
 |.a v s1::hs=>some (v,s1,hs,[.X1 s t tx a b v s1])
 |.ae v::hs=>some (v,s,hs,[.X1 s t tx a b v s])
 |.af v::hs=>some (v,s,hs,[.apf t tx a b v])
 |.g sz k cs2::hs=>(match a with
  |.sl .full n cs=>some (.sl (.row s.nr sz) k cs2,s.add k,hs,[.cU t tx .full n cs b sz k cs2])
  |.sl (.row r z) n cs=>(match DT r s.F with
   |some m=>(match bcA z sz with|true=>some (.sl (.row r sz) k cs2,s.grow r k,hs,[.cU t tx (.row r z) n cs b sz k cs2,.eqn m n])|false=>none)
   |none=>none)
  |_=>none)
 |_=>none
def aPL(P:Program)(t:TypeId)(a b:AV)(s:AS):List Hn->HO
 |.k::hs=>(match Ly P t a b with|some v=>some (v,s,hs,[])|none=>none)
 |.w v::hs=>some (v,s,hs,[.ix t a b v])
 |_=>none
def aCV(t:TypeId)(a b:AV)(ok:Bool)(s:AS):List Hn->HO
 |.w v::hs=>some (v,s,hs,[.lk s t a b ok v])
 |.x m v::hs=>(match a with|.mp id=>some (v,s,hs,[.lkB m t b ok v,.eqx [s.get id] [some m] [] []])|_=>none)
 |_=>none
def aHN(t:TypeId)(a b v:AV)(s:AS):List Hn->HO
 |.m s1::hs=>some (.sc undef,s1,hs,[.ms s t a b v s1])
 |.y m m2::hs=>(match a with|.mp id=>some (.sc undef,s.put id m2,hs,[.msB m t b v m2,.eqx [s.get id] [some m] [] []])|_=>none)
 |_=>none
def amC(t:TypeId)(a:Option AV)(s:AS)(r:Option AR):List Hn->HO
 |.l v::hs=>(match a with|some a=>some (v,s,hs,[.ld s t a v])|none=>none)
 |.lb m v::hs=>(match a with|some (.ptr id off)=>some (v,s,hs,[.ldB m t off v,.eqx [s.get id] [some m] [] []])|_=>none)
 |hs=>LF r hs
def xM(t:TypeId)(a x:Option AV)(s:AS)(r:Option AR):List Hn->HO
 |.s s1::hs=>(match a,x with|some a,some x=>some (.sc undef,s1,hs,[.st s t a x s1])|_,_=>none)
 |.sb m m2::hs=>(match a,x with|some (.ptr id off),some x=>some (.sc undef,s.put id m2,hs,[.stB m t off x m2,.eqx [s.get id] [some m] [] []])|_,_=>none)
 |hs=>LF r hs
def amE(t:TypeId)(a x:Option AV)(s:AS)(r:Option AR):List Hn->HO
 |.c v s1::hs=>(match a,x with|some a,some x=>some (v,s1,hs,[.mk s t a x v s1])|_,_=>none)
 |.mb n m::hs=>(match a,x with|some a,some x=>some (.OG s.nx 0 n,s.new m,hs,[.ES t a x n m])|_,_=>none)
 |hs=>LF r hs
def aHO(t:TypeId)(a:Option AV)(l h m:Option (Option AV))(s:AS)(r:Option AR):List Hn->HO
 |.o v::hs=>(match a,l,h,m with|some a,some l,some h,some m=>some (v,s,hs,[.sli t a l h m v])|_,_,_,_=>none)
 |hs=>LF r hs
def aCT(P:Program)(t t2:TypeId)(a:AV)(s:AS):List Hn->HO
 |.w v::hs=>some (v,s,hs,[.cv t t2 a v])
 |hs=>(match Te P t t2 a with|some v=>some (v,s,hs,[])|none=>none)
def hDo(P:Program)(G:AP)(fr:List AV)(s:AS)(o:Oper)(hs:List Hn):HO :=
 match o.op with
 |.binOp op t x y _=>(match AO G fr x with
  |some a=>(match AO G fr y with|some b=>aPH P op t x y a b s hs|none=>none)
  |none=>none)
 |.indexAddr t x i=>(match AO G fr x with
  |some a=>(match AO G fr i with|some b=>aPK P t a b s hs|none=>none)
  |none=>none)
 |.index t x i=>(match AO G fr x with
  |some a=>(match AO G fr i with|some b=>aPL P t a b s hs|none=>none)
  |none=>none)
 |.convert t t2 x=>(match AO G fr x with|some (.sl o n cs)=>aCT P t t2 (.sl o n cs) s hs|_=>LF (X0 P G fr s o) hs)
 |.lookup t x k ok=>(match AO G fr x with
  |some a=>(match AO G fr k with|some b=>aCV t a b ok s hs|none=>none)
  |none=>none)
 |.mapUpdate t m k x=>(match AO G fr m with
  |some a=>(match AO G fr k with
   |some b=>(match AO G fr x with|some v=>aHN t a b v s hs|none=>none)
   |none=>none)
  |none=>none)
 |.load t x=>amC t (A3 G fr x) s (X0 P G fr s o) hs
 |.store t x y=>xM t (A3 G fr x) (A3 G fr y) s (X0 P G fr s o) hs
 |.makeSlice t x y=>amE t (A3 G fr x) (A3 G fr y) s (X0 P G fr s o) hs
 |.slice t x lo hi mx=>aHO t (A3 G fr x) (pK G fr lo) (pK G fr hi) (pK G fr mx) s (X0 P G fr s o) hs
 |.call cl=>(match cl.callee with
  |.value _=>cW s (X0 P G fr s o) hs
  |.builtin .append=>(match cl.args.toList,cl.argTypes.toList with
   |[x,y],[t,tx]=>(match AO G fr x with
    |some a=>(match AO G fr y with|some b=>alZ s t tx a b hs|none=>none)
    |none=>none)
   |_,_=>none)
  |_=>LF (X0 P G fr s o) hs)
 |_=>LF (X0 P G fr s o) hs
def kB(P:Program)(G:AP)(ops:Array Oper)(fr:List AV)(s:AS)(o:Oper)(hs:List Hn):HO :=
 match Cp ops fr o with|true=>hDo P G fr s o hs|false=>some (.sc undef,s,hs,[])
section
variable {P:Program}{G:AP}{ops:Array Oper}
def Ya{r:Option AR}{hs hs':List Hn}{v:AV}{s:AS}{cd:List Cd}(h:LF r hs=some (v,s,hs',cd)):r=some (.val v s):=by unfold LF at h;split at h;cases h;rfl;cases h
def amD{t:TypeId}{a:Option AV}{r:Option AR}{hs hs':List Hn}{v:AV}{s s1:AS}{cd:List Cd}(h:amC t a s r hs=some (v,s1,hs',cd))(hc:SO P G cd):(∃a',a=some a'/\Lf P s t a'=some v/\s1=s)\/LF r hs=some (v,s1,hs',cd):=by unfold amC at h;split at h;split at h;cases h;exact .inl ⟨_,rfl,hc.1,rfl⟩;cases h;split at h;cases h;exact .inl ⟨_,rfl,hc.1 _ _ (bjM hc.2.1.1).1,rfl⟩;cases h;exact .inr h
def Yb{t:TypeId}{a x:Option AV}{r:Option AR}{hs hs':List Hn}{v:AV}{s s1:AS}{cd:List Cd}(h:xM t a x s r hs=some (v,s1,hs',cd))(hc:SO P G cd):(∃a' x',a=some a'/\x=some x'/\Mn P s t a' x'=some s1/\v=.sc undef)\/LF r hs=some (v,s1,hs',cd):=by unfold xM at h;split at h;split at h;cases h;exact .inl ⟨_,_,rfl,rfl,hc.1,rfl⟩;cases h;split at h;cases h;exact .inl ⟨_,_,rfl,rfl,hc.1 _ _ (bjM hc.2.1.1).1,rfl⟩;cases h;exact .inr h
def amF{t:TypeId}{a x:Option AV}{r:Option AR}{hs hs':List Hn}{v:AV}{s s1:AS}{cd:List Cd}(h:amE t a x s r hs=some (v,s1,hs',cd))(hc:SO P G cd):(∃a' x',a=some a'/\x=some x'/\∃s0,JC P s t a' x'=some (v,s0)/\∀cx w,St G cx w s0->St G cx w s1)\/LF r hs=some (v,s1,hs',cd):=by
 unfold amE at h;split at h;split at h;cases h;exact .inl ⟨_,_,rfl,rfl,_,hc.1,λ_ _ h=>h⟩;cases h;split at h;cases h;obtain⟨m0,h1,h2⟩:=hc.1 s;refine .inl ⟨_,_,rfl,rfl,_,h1,λcx w hs=>?_⟩;have:=hs.aqO (id:=s.nx) (b:=m0) (b2:=_) (by simp[AS.new,look]) (λo ho=>h2 cx w o ho);simpa[AS.new,wH] using this
 cases h;exact .inr h
def awG{t:TypeId}{a:Option AV}{l k m:Option (Option AV)}{r:Option AR}{hs hs':List Hn}{v:AV}{s s1:AS}{cd:List Cd}(h:aHO t a l k m s r hs=some (v,s1,hs',cd))(hc:SO P G cd):(∃a' l' k' m',a=some a'/\l=some l'/\k=some k'/\m=some m'/\Ml P t a' l' k' m'=some v/\s1=s)\/LF r hs=some (v,s1,hs',cd):=by unfold aHO at h;split at h;split at h;cases h;exact .inl ⟨_,_,_,_,rfl,rfl,rfl,rfl,hc.1,rfl⟩;cases h;exact .inr h
def aHM{fr:List AV}{s s1:AS}{o:Oper}{hs hs':List Hn}{v:AV}{cd:List Cd}(hw:Cp ops fr o=true)(h:hDo P G fr s o hs=some (v,s1,hs',cd))(hc:SO P G cd):J P G (XS P G) H0 (.op ops o fr s (.ret v) s1):=by
 have VU:LF (X0 P G fr s o) hs=some (v,s1,hs',cd)->J P G (XS P G) H0 (.op ops o fr s (.ret v) s1):=λh=>by
  have:=Ya h;rw[N9] at this;exact .O1 hw this
 unfold hDo at h;split at h;rename_i op t x y z ho;rw[Cm,Cm] at h;split at h;rename_i a ha;split at h;rename_i b hb
 have fin:∀v',Md P op t x y a b=some v'->s1=s->v=v'->J P G (XS P G) H0 (.op ops o fr s (.ret v) s1):=by intro v' h1 h2 h3;subst h2 h3;refine .O1 hw ?_;unfold RJ;rw[ho];simp only[ha,hb,h1,bbB]
 unfold aPH at h;rw[Tc] at h;split at h;split at h;rename_i h1;cases h;exact fin _ h1 rfl rfl;cases h;split at h;rename_i h1;cases h;have e:_=_:=hc.1;subst e;exact fin _ h1 rfl rfl;cases h;split at h;rename_i h1;cases h;have e:_=_:=hc.1;subst e;exact fin _ h1 rfl rfl;cases h;cases h;exact fin _ hc.1 rfl rfl;cases h;cases h;cases h;rename_i t x i ho;rw[Cm,Cm] at h;split at h;rename_i a ha;split at h;rename_i b hb
 have fin:∀v',Df P t a b=some v'->s1=s->v=v'->J P G (XS P G) H0 (.op ops o fr s (.ret v) s1):=by intro v' h1 h2 h3;subst h2 h3;refine .O1 hw ?_;unfold RJ;rw[ho];simp only[ha,hb,h1,bbB]
 unfold aPK at h;split at h;split at h;rename_i h1;cases h;exact fin _ h1 rfl rfl;cases h;cases h;exact fin _ hc.1 rfl rfl;cases h;cases h;cases h;rename_i t x i ho;rw[Cm,Cm] at h;split at h;rename_i a ha;split at h;rename_i b hb
 have fin:∀v',Ly P t a b=some v'->s1=s->v=v'->J P G (XS P G) H0 (.op ops o fr s (.ret v) s1):=by intro v' h1 h2 h3;subst h2 h3;refine .O1 hw ?_;unfold RJ;rw[ho];simp only[ha,hb,h1,bbB]
 unfold aPL at h;split at h;split at h;rename_i h1;cases h;exact fin _ h1 rfl rfl;cases h;cases h;exact fin _ hc.1 rfl rfl;cases h;cases h;cases h;rename_i t t2 x ho;rw[Cm] at h;split at h;rename_i ow n cs ha
 have fin:∀v',Te P t t2 (.sl ow n cs)=some v'->s1=s->v=v'->J P G (XS P G) H0 (.op ops o fr s (.ret v) s1):=by intro v' h1 h2 h3;subst h2 h3;refine .O1 hw ?_;unfold RJ;rw[ho];simp only[ha,TC,h1,bbB]
 unfold aCT at h;split at h;cases h;exact fin _ hc.1 rfl rfl;split at h;rename_i h1;cases h;exact fin _ h1 rfl rfl;cases h;exact VU h;rename_i t x k ok ho;rw[Cm,Cm] at h;split at h;rename_i a ha;split at h;rename_i b hb
 have h1:IR P s t a b ok=some v/\s1=s:=by
  unfold aCV at h;split at h;cases h;exact⟨hc.1,rfl⟩;split at h;cases h;refine⟨hc.1 _ _ ?_,rfl⟩;have h2:=hc.2.1.1;simpa using h2
  cases h;cases h
 obtain⟨h1,rfl⟩:=h1;refine .O1 hw ?_;unfold RJ;rw[ho];simp only[ha,hb,h1,bbB];cases h;cases h;rename_i t m k x ho;rw[Cm,Cm,Cm] at h;split at h;rename_i a ha;split at h;rename_i b hb;split at h;rename_i x' hx
 have h1:KT P s t a b x'=some s1/\v=.sc undef:=by
  unfold aHN at h;split at h;cases h;exact⟨hc.1,rfl⟩;split at h;cases h;refine⟨hc.1 _ _ ?_,rfl⟩;have h2:=hc.2.1.1;simpa using h2
  cases h;cases h
 obtain⟨h1,rfl⟩:=h1;refine .O1 hw ?_;unfold RJ;rw[ho];simp only[ha,hb,hx,h1,bbB];cases h;cases h;cases h;rename_i t x ho;rcases amD h hc with ⟨a,ha,h1,rfl⟩ | h1
 refine .O1 hw ?_;unfold RJ;rw[ho];simp only[ha,TC,h1,bbB];exact VU h1;rename_i t x y ho;rcases Yb h hc with ⟨a,b,ha,hb,h1,rfl⟩ | h1
 refine .O1 hw ?_;unfold RJ;rw[ho];simp only[ha,hb,h1,bbB];exact VU h1;rename_i t x y ho;rcases amF h hc with ⟨a,b,ha,hb,s0,h1,h2⟩ | h1
 refine .oI ?_ (.O1 (s':=s0) hw ?_) h2;simp only[quiet,ho];unfold RJ;rw[ho];simp only[ha,hb,h1,bbB];exact VU h1;rename_i t x lo hi mx ho;rcases awG h hc with ⟨a,l,k,m,ha,hl,hk,hm,h1,rfl⟩ | h1
 refine .O1 hw ?_;unfold RJ;rw[ho];simp only[ha,hl,hk,hm,h1,bbB];exact VU h1;rename_i cl ho;split at h;unfold cW at h;split at h;split at h;rename_i h1;cases h;rw[N9] at h1;exact .TQ hw h1 (.ext (hc.1 s));cases h;split at h;rename_i h1;cases h;rw[N9] at h1;exact .TQ hw h1 (.ext hc.1);cases h;split at h;rename_i h1;cases h;rw[N9] at h1;exact .TQ hw h1 (.ext (hc.1 s hc.2.1.1 hc.2.1.2));cases h;split at h;rename_i h1;cases h;rw[N9] at h1;exact .TQ hw h1 (.ext (hc.1 s rfl rfl));cases h;cases h;rename_i Ib;split at h;rename_i x y t tx hxs DK;rw[Cm,Cm] at h;split at h;rename_i a ha;split at h;rename_i b hb
 have fin:∀v0,Lx P s t tx a b=some (v0,s1)->(∀c w u,Rp c w v0 u->Rp c w v u)->J P G (XS P G) H0 (.op ops o fr s (.ret v) s1):=by intro v0 h1 h2;refine .yW (v:=v0) ?_ (.O1 hw ?_) h2;simp only[quiet,ho,Ib];unfold RJ;rw[ho];simp only[U9,Ib,hxs,DK,ha,hb,h1,bbB]
 unfold alZ at h;split at h;cases h;exact .apQ hw ho Ib hxs DK ha hb (hc.1 s);cases h;obtain⟨v0,h1,h2⟩:=hc.1;exact fin v0 h1 h2;cases h;obtain⟨v0,h1,h2⟩:=hc.1;exact fin v0 h1 h2;cases h;obtain⟨v0,h1,h2⟩:=hc.1 s;exact fin v0 h1 h2;split at h;cases h;obtain⟨cs0,h1,h2⟩:=hc.1 s rfl;exact fin _ h1 (λc w u=>h2 c w u _);rename_i r z n cs;split at h;rename_i m hm;split at h;rename_i hz;have hz:=beq_true hz;subst hz;cases h;have e:m=n:=hc.2.1;subst e;obtain⟨cs0,h1,h2⟩:=hc.1 s (by simp[KC,hm]);exact fin _ h1 (λc w u=>h2 c w u _);cases h;cases h;cases h;cases h;cases h;cases h;cases h;exact VU h;exact VU h
def Qo{fr:List AV}{s s1:AS}{o:Oper}{hs hs':List Hn}{v:AV}{cd:List Cd}(h:kB P G ops fr s o hs=some (v,s1,hs',cd))(hc:SO P G cd):J P G (XS P G) H0 (.op ops o fr s (.ret v) s1):=by unfold kB at h;split at h;rename_i hw;exact aHM hw h hc;rename_i hw;cases h;exact .yU hw
end
end AI
