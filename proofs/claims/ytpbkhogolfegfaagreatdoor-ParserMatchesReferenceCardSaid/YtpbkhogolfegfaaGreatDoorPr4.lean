/- Part of a proof: see the last text. -/
import Derived.Test.YtpbkhogolfegfaaGreatDoorPr3
import Derived.Test.YtpbkhogolfegfaaGreatDoorRows
import Derived.ProofKit
import Derived.OpenShut
import Derived.Deep.DeepHandedRow
import Derived.Deep.Slices
import Derived.Test.YtpbkhogolfegfaaGreatDoorCards
import Derived.Lib.LaidTab
import Derived.Lib.LaidIn
import Derived.Shelf.Vars
import Derived.LaidByTextLater
import Derived.SevenTiedAt
import Derived.LaidSub
import Derived.LaidOnce
import Derived.SizedLaws
set_option linter.all false
noncomputable section
set_option maxRecDepth 100000
open Array renaming getElem?_toList->biO
open ByteArray renaming empty->gT
open Go.DataW renaming agg->brY,lit->btF,trod->brH,trod_array->brX,trod_int->bkK,trod_slice->bqC,trod_string->bpO,trod_struct->bmT,weights->bnG,weightsAll->brZ,weightsEach->brP,weights_mem_each->bnV
open Go.DataW.lit renaming injEq->boK
open Go.Deep renaming add_add->bsI
open Go.Lit.int renaming injEq->brC
open Go.Value renaming string->boS
open Go.World renaming cells?_some->brO,holding->btC
open List renaming append_assoc->bjX,append_nil->bkW,drop->bkU,drop_drop->biU,drop_zero->biT,eq_nil_of_length_eq_zero->biJ,flatMap_append->bqU,flatMap_cons->bnT,getElem?_append_left->bhD,getElem?_concat_length->bjT,getElem?_eq_getElem->aBD,getElem?_eq_some_iff->aBC,getElem?_map->biH,getElem?_set_ne->bjB,getElem?_set_self->biW,length_append->aWQ,length_cons->bhE,length_drop->bhI,length_map->biE,length_nil->biV,length_singleton->bhF,length_take->biM,map_append->bjC,map_congr_left->bqV,map_cons->bkF,map_map->boT,map_set->btK,mem_append->biI,mem_cons->bhJ,mem_iff_getElem?->bkN,mem_map->bkR,mem_map_of_mem->boO,mem_of_getElem?->aWR,mem_singleton->biQ,nodup_append->bnU,range->bjD,range_succ->bsJ,take->bkT,take_append_drop->blJ,take_append_getElem->bpT,take_of_length_le->blS
open Nat renaming add_comm->bmP,add_zero->bjU,le_refl->aWP,strongRecOn->blY,succ_mul->bmO,zero_add->bhC,zero_le->bjI,zero_mul->boQ
open Option renaming bind_eq_some_iff->bmJ,map_some->bhK
open Option.some renaming inj->biA,injEq->atS
open Prod.mk renaming injEq->aWN
namespace Go.Proofs.YtpbkhogolfegfaaGreatDoor
open AI Go
namespace Mo
open Go.ChangeShapes Go.WideShapes Go.ChangeAt Go.RowKit
set_option maxHeartbeats 4000000
def asF{z:Int}(h:(Lit.int .i64 z).wf=true):-9223372036854775808<=z/\z<=9223372036854775807:=by simp only[Lit.wf,Bool.and_eq_true,decide_eq_true_eq] at h;exact h
def c3:P.cellsOf 3=1:=by kernel_rfl
def c5:P.cellsOf 5=1:=by kernel_rfl
def c9:P.cellsOf 9=1:=by kernel_rfl
def c24:P.cellsOf 24=1:=by kernel_rfl
def c26:P.cellsOf 26=2:=by kernel_rfl
def c27:P.cellsOf 27=1:=by kernel_rfl
def c29:P.cellsOf 29=11:=by kernel_rfl
def c64:P.cellsOf 64=3:=by kernel_rfl
def Y7(W:World):Cx:=⟨W.heap.size,[],[],λ_ _=>False⟩
def aSU{W:World}{g i:Nat}{v:Value}(h:W.cell? ⟨g,i,none⟩=some v):MD (Y7 W) W g i v:=by
 refine⟨World.block_lt_of_cell? W _ h,λhs=>?_,h⟩;rcases hs with hs | ⟨r,n,cap,sz,hr,_⟩ | hs
 cases hs;simp[Y7] at hr;exact hs
def stW(W:World):St (λ_=>none) (Y7 W) W s0 :=
 ⟨rfl,trivial,(λi j g h1=>by simp[Y7] at h1),(λg hg=>by cases hg),(λid g b h1=>by simp[Y7] at h1),rfl,(λr g n cap sz hr=>by simp[Y7] at hr),(λr n hr=>by cases hr),(λg hg=>by cases hg),(λg i hb=>hb.elim),(λr r' g n cap sz n' cap' OI hr=>by simp[Y7] at hr),(λg cs hg=>by cases hg),aWP _,(λg cs hg=>by cases hg)⟩
def amU{w:World}{a:Addr}{v:Value}(h:w.cell? a=some v):a=⟨a.block,a.off,none⟩:=by
 obtain⟨b,o,s⟩:=a;cases s with
 |none=>rfl
 |some x=>
  exfalso;unfold World.cell? at h;split at h<;>simp at h
section
variable {H:Type}{enc:TypeId×Value->H}{W:World}
abbrev Td(enc:TypeId×Value->H)(W:World)(n:Nat)(t:TypeId)(cs:List Value):Option (DataW H×List MemPlace):=brH enc P W 0 (λ_=>true) true n t cs
def qK{c:Cx}{w:World}{g o:Nat}{xs ys:List AV}(h:A0 c w g o xs)(k:A0 c w g (o+xs.length) ys):A0 c w g o (xs++ys):=by
 induction xs generalizing o with
 |nil=>exact k
 |cons a xs ih=>
  cases h with|cons hv h1 t=>exact .cons hv h1 (ih t (by rw[bhE] at k;rwa[show o+1+xs.length=o+(xs.length+1) by omega]))
def oI{α:Type}(f:α->List AV)(c:Nat)(hc:0 < c)(hf:∀a,(f a).length=c)(ok:α->Prop){ts te:TypeId}(hu:P.underlying ts=some (.slice te))(hce:P.cellsOf te=c){fuel:Nat}{v:Value}{x:DataW H×List MemPlace}
   (aWY:∀n cs x,n < fuel->Td enc W n te cs=some x->∃y:α,ok y/\Cw (Y7 W) W (f y) cs)
   (h:Td enc W fuel ts [v]=some x):∃l:List α,Rp (Y7 W) W (.sl .lost l.length (rows f l)) v/\(∀x∈l,ok x)/\l.length<=9223372036854775807:=by
 rcases bqC hu h with ⟨UU,_⟩ | ⟨a,len,cap,nI,rest,n,hn,UU,_,_,hl,hm,hlen,hel,_,_⟩
 obtain rfl:v=.slice none 0 0:=by simpa using UU
 exact⟨[],.sl0 trivial,by simp,by simp⟩
 ·obtain rfl:v=.slice (some a) len cap:=by simpa using UU
  have bgU:len<=9223372036854775807:=by unfold maxLen at hm;omega
  have hex:∀i,i < len->∃y:α,ok y/\∃cs,Cw (Y7 W) W (f y) cs/\cs.length=c/\∀j,j < c->W.cell? (a.add (i*c+j))=cs[j]?:=by intro i hi;have Sc:=hel i hi;rw[aBD (by omega)] at Sc;obtain⟨cs',h1,h2⟩:=bmJ.1 Sc;obtain⟨y,hy,hr⟩:=aWY n cs' _ (by omega) h2;rw[hce] at h1;obtain⟨_,IX,WN⟩:=brO h1;refine⟨y,hy,cs',hr,IX,λj hj=>?_⟩;rw[<- bsI];exact WN j hj
  by_cases h0:len=0;subst h0;exact⟨[],.sl0 trivial,by simp,by simp⟩
  ·have ha:a=⟨a.block,a.off,none⟩:=by
    obtain⟨y,_,cs,_,IX,WN⟩:=hex 0 (by omega);have h1:=WN 0 hc;rw[aBD (by omega)] at h1;have h2:a.add (0*c+0)=a:=by simp[Addr.add]
    rw[h2] at h1;exact amU h1
   have hadd:∀k,a.add k=⟨a.block,a.off+k,none⟩:=by intro k;rw[ha];unfold Addr.add;split;rename_i hk;subst hk;rfl;rfl
   have key:∀d k,k+d=len->∃l:List α,l.length=d/\(∀x∈l,ok x)/\A0 (Y7 W) W a.block (a.off+k*c) (rows f l):=by
    intro d
    induction d with
    |zero=>intro k _;exact⟨[],rfl,by simp,.nil⟩
    |succ d ih=>
     intro k hk;obtain⟨y,hy,cs,hr,IX,WN⟩:=hex k (by omega);obtain⟨l,h1,h2,h3⟩:=ih (k+1) (by omega);refine⟨y::l,by simp[h1],λx hx=>?_,?_⟩;rcases bhJ.1 hx with rfl | hx
     exact hy;exact h2 x hx;rw[Fq];refine qK (A0.Tm hr λj v hv=>?_) ?_;have hj:j < c:=by have:=(aBC.1 hv).1;omega
     have:=WN j hj;rw[hadd,hv] at this;rw[show a.off+k*c+j=a.off+(k*c+j) by omega];exact aSU this;rw[hf y,show a.off+k*c+c=a.off+(k+1)*c by rw[Nat.add_mul];omega];exact h3
   obtain⟨l,h1,h2,h3⟩:=key len 0 (by omega);rw[boQ,bjU] at h3;refine⟨l,?_,h2,by omega⟩;rw[ha,h1];exact .Lt hl h3 trivial
def o64:∀(n:Nat)(cs:List Value)(x:DataW H×List MemPlace),Td enc W n 64 cs=some x->∃y:Pc,aQM y/\Cw (Y7 W) W (Nz y) cs:=by
 intro n cs x h;obtain⟨xs,m,hm,_,hl,hlen,hf⟩:=bmT Tryz.underlying64 h;rw[c64] at hl
 match cs,hl with
 |[a0,a1,a2],_=>
  have h0:Td enc W m 3 (bkT (P.cellsOf 3) (bkU 0 [a0,a1,a2]))=xs[0]?:=hf 0 _ rfl;rw[c3,aBD (by rw[hlen];decide)] at h0;have h0:Td enc W m 3 [a0]=some _:=h0;have h1:Td enc W m 3 (bkT (P.cellsOf 3) (bkU 1 [a0,a1,a2]))=xs[1]?:=hf 1 _ rfl;rw[c3,aBD (by rw[hlen];decide)] at h1;have h1:Td enc W m 3 [a1]=some _:=h1;have h2:Td enc W m 3 (bkT (P.cellsOf 3) (bkU 2 [a0,a1,a2]))=xs[2]?:=hf 2 _ rfl;rw[c3,aBD (by rw[hlen];decide)] at h2;have h2:Td enc W m 3 [a2]=some _:=h2;obtain⟨z0,q0,_,w0⟩:=bkK Tryz.underlying3 h0;obtain rfl:a0=.int .i64 z0:=by simpa using q0
  obtain⟨z1,q1,_,w1⟩:=bkK Tryz.underlying3 h1;obtain rfl:a1=.int .i64 z1:=by simpa using q1
  obtain⟨z2,q2,_,w2⟩:=bkK Tryz.underlying3 h2;obtain rfl:a2=.int .i64 z2:=by simpa using q2
  exact⟨⟨z0,z1,z2⟩,⟨(asF w0),(asF w1),(asF w2)⟩,(.cons (.sc rfl) (.cons (.sc rfl) (.cons (.sc rfl) .nil)))⟩
def o26:∀(n:Nat)(cs:List Value)(x:DataW H×List MemPlace),Td enc W n 26 cs=some x->∃y:Fn,yE y/\Cw (Y7 W) W (fnC y) cs:=by
 intro n cs x h;obtain⟨xs,m,hm,_,hl,hlen,hf⟩:=bmT Tryz.underlying26 h;rw[c26] at hl
 match cs,hl with
 |[a0,a1],_=>
  have h0:Td enc W m 3 (bkT (P.cellsOf 3) (bkU 0 [a0,a1]))=xs[0]?:=hf 0 _ rfl;rw[c3,aBD (by rw[hlen];decide)] at h0;have h0:Td enc W m 3 [a0]=some _:=h0;have h1:Td enc W m 24 (bkT (P.cellsOf 24) (bkU 1 [a0,a1]))=xs[1]?:=hf 1 _ rfl;rw[c24,aBD (by rw[hlen];decide)] at h1;have h1:Td enc W m 24 [a1]=some _:=h1;obtain⟨z0,q0,_,w0⟩:=bkK Tryz.underlying3 h0;obtain rfl:a0=.int .i64 z0:=by simpa using q0
  obtain⟨l1,r1,k1,b1⟩:=oI Nz 3 (by decide) (λ_=>rfl) aQM Tryz.underlying24 c64 (λk cs x hk ht=>o64 k cs x ht) h1;exact⟨⟨z0,l1⟩,⟨b1,k1⟩,(.cons (.sc rfl) (.cons r1 .nil))⟩
def o29:∀(n:Nat)(cs:List Value)(x:DataW H×List MemPlace),Td enc W n 29 cs=some x->∃y:Nd,IS y/\Cw (Y7 W) W (Dh y) cs:=by
 intro n
 induction n using blY with
 |_ n ih=>
 intro cs x h;obtain⟨xs,m,hm,_,hl,hlen,hf⟩:=bmT Tryz.underlying29 h;rw[c29] at hl
 match cs,hl with
 |[a0,a1,a2,a3,a4,a5,a6,a7,a8,a9,a10],_=>
  have h0:Td enc W m 3 (bkT (P.cellsOf 3) (bkU 0 [a0,a1,a2,a3,a4,a5,a6,a7,a8,a9,a10]))=xs[0]?:=hf 0 _ rfl;rw[c3,aBD (by rw[hlen];decide)] at h0;have h0:Td enc W m 3 [a0]=some _:=h0;have h1:Td enc W m 9 (bkT (P.cellsOf 9) (bkU 1 [a0,a1,a2,a3,a4,a5,a6,a7,a8,a9,a10]))=xs[1]?:=hf 1 _ rfl;rw[c9,aBD (by rw[hlen];decide)] at h1;have h1:Td enc W m 9 [a1]=some _:=h1;have h2:Td enc W m 9 (bkT (P.cellsOf 9) (bkU 2 [a0,a1,a2,a3,a4,a5,a6,a7,a8,a9,a10]))=xs[2]?:=hf 2 _ rfl;rw[c9,aBD (by rw[hlen];decide)] at h2;have h2:Td enc W m 9 [a2]=some _:=h2;have h3:Td enc W m 3 (bkT (P.cellsOf 3) (bkU 3 [a0,a1,a2,a3,a4,a5,a6,a7,a8,a9,a10]))=xs[3]?:=hf 3 _ rfl;rw[c3,aBD (by rw[hlen];decide)] at h3;have h3:Td enc W m 3 [a3]=some _:=h3;have h4:Td enc W m 3 (bkT (P.cellsOf 3) (bkU 4 [a0,a1,a2,a3,a4,a5,a6,a7,a8,a9,a10]))=xs[4]?:=hf 4 _ rfl;rw[c3,aBD (by rw[hlen];decide)] at h4;have h4:Td enc W m 3 [a4]=some _:=h4;have h5:Td enc W m 3 (bkT (P.cellsOf 3) (bkU 5 [a0,a1,a2,a3,a4,a5,a6,a7,a8,a9,a10]))=xs[5]?:=hf 5 _ rfl;rw[c3,aBD (by rw[hlen];decide)] at h5;have h5:Td enc W m 3 [a5]=some _:=h5;have h6:Td enc W m 3 (bkT (P.cellsOf 3) (bkU 6 [a0,a1,a2,a3,a4,a5,a6,a7,a8,a9,a10]))=xs[6]?:=hf 6 _ rfl;rw[c3,aBD (by rw[hlen];decide)] at h6;have h6:Td enc W m 3 [a6]=some _:=h6;have h7:Td enc W m 26 (bkT (P.cellsOf 26) (bkU 7 [a0,a1,a2,a3,a4,a5,a6,a7,a8,a9,a10]))=xs[7]?:=hf 7 _ rfl;rw[c26,aBD (by rw[hlen];decide)] at h7;have h7:Td enc W m 26 [a7,a8]=some _:=h7;have h8:Td enc W m 27 (bkT (P.cellsOf 27) (bkU 9 [a0,a1,a2,a3,a4,a5,a6,a7,a8,a9,a10]))=xs[8]?:=hf 8 _ rfl;rw[c27,aBD (by rw[hlen];decide)] at h8;have h8:Td enc W m 27 [a9]=some _:=h8;have h9:Td enc W m 3 (bkT (P.cellsOf 3) (bkU 10 [a0,a1,a2,a3,a4,a5,a6,a7,a8,a9,a10]))=xs[9]?:=hf 9 _ rfl;rw[c3,aBD (by rw[hlen];decide)] at h9;have h9:Td enc W m 3 [a10]=some _:=h9;obtain⟨z0,q0,_,w0⟩:=bkK Tryz.underlying3 h0;obtain rfl:a0=.int .i64 z0:=by simpa using q0
  obtain⟨z1,q1,_⟩:=bpO Tryz.underlying9 h1;obtain rfl:a1=.string z1:=by simpa using q1
  obtain⟨z2,q2,_⟩:=bpO Tryz.underlying9 h2;obtain rfl:a2=.string z2:=by simpa using q2
  obtain⟨z3,q3,_,w3⟩:=bkK Tryz.underlying3 h3;obtain rfl:a3=.int .i64 z3:=by simpa using q3
  obtain⟨z4,q4,_,w4⟩:=bkK Tryz.underlying3 h4;obtain rfl:a4=.int .i64 z4:=by simpa using q4
  obtain⟨z5,q5,_,w5⟩:=bkK Tryz.underlying3 h5;obtain rfl:a5=.int .i64 z5:=by simpa using q5
  obtain⟨z6,q6,_,w6⟩:=bkK Tryz.underlying3 h6;obtain rfl:a6=.int .i64 z6:=by simpa using q6
  obtain⟨y7,k7,r7⟩:=o26 m _ _ h7;obtain⟨l8,r8,k8,b8⟩:=oI Dh 11 (by decide) (λ_=>rfl) IS Tryz.underlying27 c29 (λk cs x hk ht=>ih k (by omega) cs x ht) h8;rw[<- LZ] at r8;obtain⟨z9,q9,_,w9⟩:=bkK Tryz.underlying3 h9;obtain rfl:a10=.int .i64 z9:=by simpa using q9
  exact⟨⟨z0,z1,z2,z3,z4,z5,z6,y7,l8,z9⟩,by rw[IS];exact⟨k7,b8,(oH.2 k8)⟩,(.cons (.sc rfl) (.cons (.sc rfl) (.cons (.sc rfl) (.cons (.sc rfl) (.cons (.sc rfl) (.cons (.sc rfl) (.cons (.sc rfl) (Cw.append r7 (.cons r8 (.cons (.sc rfl) .nil))))))))))⟩
end
def aMC{c:Cx}{W:World}{v:Value}{cs:List AV}(hc:cs.length≠1)(h:Cw c W cs v.cells.toList):Rp c W (.agg cs) v:=by have hl:=h.len;cases v with|agg ws=>exact .agg (by simpa[Value.cells] using h)|_=>simp[Value.cells] at hl;omega
end Mo
def own:ownKnob Tryz.prog.godebug=none:=by kernel_rfl
def laidOut:laidOutB Tryz.prog=true:=by kernel_rfl
end Go.Proofs.YtpbkhogolfegfaaGreatDoor
namespace Go.Proofs.YtpbkhogolfegfaaGreatDoor
open AI Go Go.RowKit LexS
def chunks{α:Type}{V:α->List Value}{k:Nat}:∀{l:List α}{cs:List Value},cs.length=l.length*k->(∀y,(V y).length=k)->(∀(i:Nat) y,l[i]?=some y->(cs.drop (i*k)).take k=V y)->cs=l.flatMap V
 |[],cs,h,_,_=>by
  simp only[biV,boQ] at h;rw[biJ h];rfl
 |a::l,cs,h,hV,hc=>by
  have h0:=hc 0 a rfl;rw[boQ,biT] at h0
  have ih:=chunks (V:=V) (k:=k) (l:=l) (cs:=cs.drop k) (by rw[bhI,h,bhE,bmO];omega) hV λi y hy=>by
   rw[biU];have:=hc (i+1) y (by simpa using hy)
   rwa[bmO,bmP] at this
  rw[bnT,<- h0,<- ih,blJ]
def PI{α H:Type}{enc:TypeId×Value->H}{P:Program}{w:World}{base:Nat}{sp:Nat->Bool}{held:Bool}{fuel:Nat}{t e:TypeId}{n k:Nat}{cs:List Value}{l:List α}{p:List MemPlace}(D:α->DataW H)(V:α->List Value)(hV:∀y,(V y).length=k)
   (PZ:∀f c y q,brH enc P w base sp held f e c=some (D y,q)->c=V y)
   (ht:P.underlying t=some (.array n e)) (hce:P.cellsOf e=k) (hct:P.cellsOf t=n*k) (h:brH enc P w base sp held fuel t cs=some (.agg (l.map D),p)):cs=l.flatMap V:=by
 obtain⟨xs,m,_,hx,hl,hxl,WN⟩:=brX ht h
 have hd:l.map D=xs.map (·.1):=by have:=congrArg Prod.fst hx;simpa using this
 have hll:l.length=n:=by have:=congrArg List.length hd;simp at this;omega
 rw[hct] at hl;rw[hce] at WN;refine chunks (by rw[hl,hll]) hV λi y hy=>?_;have hi:i < n:=by have:=(aBC.1 hy).1;omega
 have h2:=WN i hi;have hxi:xs[i]?=some xs[i]:=aBD (by omega);rw[hxi] at h2;have h3:(l.map D)[i]?=(xs.map (·.1))[i]?:=by rw[hd]
 rw[biH,biH,hy,hxi] at h3;simp only[bhK,atS] at h3;refine PZ m _ y xs[i].2 ?_;rw[h2,h3]
def jE{H:Type}{enc:TypeId×Value->H}{w:World}{base:Nat}{sp:Nat->Bool}{held:Bool}(f:Nat)(c:List Value)(y:List UInt8)(q:List MemPlace)(hh:brH enc Tryz.prog w base sp held f 9 c=some (.lit (.string y),q)):c=[.string ⟨y.toArray⟩]:=by obtain⟨z,hc,hz,_⟩:=bpO Tryz.underlying9 hh;simp only[aWN,boK,Lit.string.injEq] at hz;rw[hc,hz.1]
def JV{W:World}{n:String}{g:Nat}{cs:Array Value}(hg:Tryz.prog.globalNamed n=some g)(h:W.var? Tryz.prog n=some cs):∃t fr,W.heap[g]?=some (.cells cs t fr):=by
 unfold World.var? at h;rw[hg] at h;simp only[Option.bind_some] at h;split at h;rename_i c t fr hh;injection h with h
 subst h;exact⟨t,fr,hh⟩;cases h
def gB:Tryz.prog.globalNamed "wageoffice/calendar.before"=some 12:=by kernel_rfl
def gC:Tryz.prog.globalNamed "wageoffice/lexer.classes"=some 3:=by kernel_rfl
def gS:Tryz.prog.globalNamed "wageoffice/lexer.symbols"=some 0:=by kernel_rfl
def gO:Tryz.prog.globalNamed "wageoffice/parser.operators"=some 2:=by kernel_rfl
def gR:Tryz.prog.globalNamed "wageoffice/parser.roles"=some 1:=by kernel_rfl
def gP:Tryz.prog.globalNamed "internal/strconv.uint64pow10"=some 4:=by kernel_rfl
def gPT:(Tryz.prog.globals[(4:Nat)]?).map (·.type)=some 167:=by kernel_rfl
def zW:Tryz.prog.cellsOf 146=1:=by kernel_rfl
def zP:Tryz.prog.cellsOf 167=20*1:=by kernel_rfl
def gBT:(Tryz.prog.globals[(12:Nat)]?).map (·.type)=some 203:=by kernel_rfl
def gCT:(Tryz.prog.globals[(3:Nat)]?).map (·.type)=some 151:=by kernel_rfl
def gST:(Tryz.prog.globals[(0:Nat)]?).map (·.type)=some 134:=by kernel_rfl
def gOT:(Tryz.prog.globals[(2:Nat)]?).map (·.type)=some 143:=by kernel_rfl
def gRT:(Tryz.prog.globals[(1:Nat)]?).map (·.type)=some 135:=by kernel_rfl
def zI:Tryz.prog.cellsOf 3=1:=by kernel_rfl
def zU:Tryz.prog.cellsOf 5=1:=by kernel_rfl
def zS:Tryz.prog.cellsOf 9=1:=by kernel_rfl
def zB:Tryz.prog.cellsOf 203=13*1:=by kernel_rfl
def zC:Tryz.prog.cellsOf 151=128*1:=by kernel_rfl
def zY:Tryz.prog.cellsOf 134=17*1:=by kernel_rfl
def z6:Tryz.prog.cellsOf 142=6*1:=by kernel_rfl
def zO:Tryz.prog.cellsOf 143=6*6:=by kernel_rfl
def zR:Tryz.prog.cellsOf 135=5*1:=by kernel_rfl
def aMM:List Int:=[0,31,59,90,120,151,181,212,243,273,304,334,365]
def aRI:List (List UInt8):=[[],[101,97,114,110],[100,101,100,117,99,116],[102,108,111,111,114],[105,110,102,111]]
def opsL:List (List (List UInt8)):=[[[111,114],[],[],[],[],[]],[[97,110,100],[],[],[],[],[]],[[],[],[],[],[],[]],[[61,61],[33,61],[60],[60,61],[62],[62,61]],[[43],[45],[],[],[],[]],[[42],[47],[97,116],[],[],[]]]
abbrev sC(y:List UInt8):DataW Unit:=.lit (.string y)
def bbQ:(Rows.laid_wageoffice_calendar_before:DataW Unit)=.agg (aMM.map λz=>.lit (.int .i64 z)):=by rfl
def bbT:(Rows.laid_internal_strconv_uint64pow10:DataW Unit)=.agg (Lib.pow10Tab.map λz=>.lit (.int .u64 z)):=by kernel_rfl
def bbR:(Rows.laid_wageoffice_lexer_classes:DataW Unit)=.agg ((bjD 128).map λi=>.lit (.int .u8 (O4 i:Nat))):=by rfl
def bbV:(Rows.laid_wageoffice_lexer_symbols:DataW Unit)=.agg (G4.map sC):=by rfl
def bbS:(Rows.laid_wageoffice_parser_operators:DataW Unit)=.agg (opsL.map λl=>.agg (l.map sC)):=by rfl
def bbU:(Rows.laid_wageoffice_parser_roles:DataW Unit)=.agg (aRI.map sC):=by rfl
def aZX:((begin Tryz.prog (λ_ _=>0) default).world.heap[(5:Nat)]?).bind Obj.row?=some (#[.int .i64 0],3):=by kernel_rfl
def aPZ{W:World}(h:W.ShapedOpen Tryz.prog):∃m,W.cell? ⟨5,0,none⟩=some (.int .i64 m):=by obtain⟨m,hm⟩:=cell_of_shapedOpen_int h (g:=5) (by decide +kernel) aZX rfl (by kernel_rfl) (by kernel_rfl) Tryz.underlying3;exact⟨m,hm⟩
def VG(c:Cx)(w:World):∀l:List (List UInt8),Cw c w (l.map Hp) (l.flatMap λy=>[.string ⟨y.toArray⟩])
 |[]=>.nil
 |_::l=>.cons (.sc rfl) (VG c w l)
def uB(c:Cx)(w:World):∀l:List Int,Cw c w (l.map Hd.int) (l.flatMap λy=>[.int .i64 y])
 |[]=>.nil
 |_::l=>.cons (.sc rfl) (uB c w l)
def aeF(c:Cx)(w:World):∀l:List Int,Cw c w (l.map Hd.aFT) (l.flatMap λy=>[.int .u64 y])
 |[]=>.nil
 |_::l=>.cons (.sc rfl) (aeF c w l)
def aeE(c:Cx)(w:World):∀l:List Nat,Cw c w (l.map λi=>.sc (.int .u8 (O4 i:Nat))) (l.flatMap λi=>[.int .u8 (O4 i:Nat)])
 |[]=>.nil
 |_::l=>.cons (.sc rfl) (aeE c w l)
def jS(c:Cx)(w:World):∀l:List (List (List UInt8)),Cw c w (l.flatMap λy=>y.map Hp) (l.flatMap λy=>y.flatMap λz=>[.string ⟨z.toArray⟩])
 |[]=>.nil
 |a::l=>(VG c w a).append (jS c w l)
def Y5{W:World}{g:Nat}{l:List AV}{cs:Array Value}(h:∃t fr,W.heap[g]?=some (.cells cs t fr))(hr:Cw (Mo.Y7 W) W l cs.toList):A0 (Mo.Y7 W) W g 0 l:=by obtain⟨t,fr,h⟩:=h;refine A0.Tm hr λi v hi=>Mo.aSU ?_;rw[bhC,cell_of_row W g i cs t fr h];rwa[biO] at hi
def atP{W:World}(h:W.ShapedOpen Tryz.prog):∃cs t f,W.heap[(5:Nat)]?=some (.cells cs t f)/\cs.size=1:=by obtain⟨cs,hh,hs,_⟩:=h.1 5 _ _ (by decide +kernel) aZX;exact⟨cs,_,_,hh,hs⟩
def nQ{W:World}{g:Nat}{l:List AV}{cs:Array Value}(h:∃t fr,W.heap[g]?=some (.cells cs t fr))(hr:Cw (Mo.Y7 W) W l cs.toList):∃vs T f,W.heap[g]?=some (.cells vs T f)/\vs.size=l.length:=by obtain⟨t,fr,h⟩:=h;exact⟨cs,t,fr,h,by have:=hr.len;simpa using this⟩
def aeO{W:World}(h:laidMetH Tryz.prog Rows.parserTreesRow.laid W)(Gz:W.ShapedOpen Tryz.prog):∃mx,St (Hd.G mx) (Mo.Y7 W) W s0:=by
 have h:laidMet Tryz.prog [("math/bits.deBruijn32tab",Rows.laid_math_bits_deBruijn32tab),("math/bits.deBruijn64tab",Rows.laid_math_bits_deBruijn64tab),("internal/strconv.uint64pow10",Rows.laid_internal_strconv_uint64pow10),("unicode/utf8.acceptRanges",Rows.laid_unicode_utf8_acceptRanges),("strconv.ErrRange",Rows.laid_strconv_ErrRange),("strconv.ErrSyntax",Rows.laid_strconv_ErrSyntax),("wageoffice/calendar.before",Rows.laid_wageoffice_calendar_before),("wageoffice/lexer.classes",Rows.laid_wageoffice_lexer_classes),("wageoffice/lexer.symbols",Rows.laid_wageoffice_lexer_symbols),("wageoffice/parser.operators",Rows.laid_wageoffice_parser_operators),("wageoffice/parser.roles",Rows.laid_wageoffice_parser_roles),("unicode/utf8.first",Rows.laid_unicode_utf8_first)] W:=h
 obtain⟨ps,⟨_,_,_,_,_,_,_,_,_,_,⟨_,_,_,_,_,_,_,_,_,_,⟨g3,t3,cs3,f3,p3,q3,hg3,ht3,hv3,hd3,⟨_,_,_,_,_,_,_,_,_,_,⟨_,_,_,_,_,_,_,_,_,_,⟨_,_,_,_,_,_,_,_,_,_,⟨g7,t7,cs7,f7,p7,q7,hg7,ht7,hv7,hd7,⟨g8,t8,cs8,f8,p8,q8,hg8,ht8,hv8,hd8,⟨g9,t9,cs9,f9,p9,q9,hg9,ht9,hv9,hd9,⟨g10,t10,aVE,f10,p10,q10,bcR,bdU,aXQ,hd10,⟨g11,t11,bhA,f11,p11,q11,bcS,bdV,aXR,aWX,_⟩,_⟩,_⟩,_⟩,_⟩,_⟩,_⟩,_⟩,_⟩,_⟩,_⟩,_⟩:=h;obtain rfl:=biA (gP.symm.trans hg3);obtain rfl:=biA (gPT.symm.trans ht3);rw[bbT] at hd3;obtain rfl:=biA (gB.symm.trans hg7);obtain rfl:=biA (gC.symm.trans hg8);obtain rfl:=biA (gS.symm.trans hg9);obtain rfl:=biA (gO.symm.trans bcR);obtain rfl:=biA (gR.symm.trans bcS);obtain rfl:=biA (gBT.symm.trans ht7);obtain rfl:=biA (gCT.symm.trans ht8);obtain rfl:=biA (gST.symm.trans ht9);obtain rfl:=biA (gOT.symm.trans bdU);obtain rfl:=biA (gRT.symm.trans bdV);rw[bbQ] at hd7;rw[bbR] at hd8;rw[bbV] at hd9;rw[bbS] at hd10;rw[bbU] at aWX
 have e3:=PI (k:=1) (λz:Int=>(btF (.int .u64 z):DataW Unit)) (λz=>[.int .u64 z]) (λ_=>rfl)
   (λf c y q hh=>by obtain⟨z,hc,hz,_⟩:=bkK Tryz.underlying146 hh;simp only[aWN,boK,brC,true_and] at hz;rw[hc,hz.1]) Tryz.underlying167 zW zP hd3
 have e7:=PI (k:=1) (λz:Int=>(btF (.int .i64 z):DataW Unit)) (λz=>[.int .i64 z]) (λ_=>rfl)
   (λf c y q hh=>by obtain⟨z,hc,hz,_⟩:=bkK Tryz.underlying3 hh;simp only[aWN,boK,brC,true_and] at hz;rw[hc,hz.1]) Tryz.underlying203 zI zB hd7
 have e8:=PI (k:=1) (λi:Nat=>(btF (.int .u8 (O4 i:Nat)):DataW Unit)) (λi=>[.int .u8 (O4 i:Nat)]) (λ_=>rfl)
   (λf c y q hh=>by obtain⟨z,hc,hz,_⟩:=bkK Tryz.underlying5 hh;simp only[aWN,boK,brC,true_and] at hz;rw[hc,hz.1]) Tryz.underlying151 zU zC hd8
 have e9:=PI (k:=1) sC (λy=>[.string ⟨y.toArray⟩]) (λ_=>rfl) jE Tryz.underlying134 zS zY hd9;have e11:=PI (k:=1) sC (λy=>[.string ⟨y.toArray⟩]) (λ_=>rfl) jE Tryz.underlying135 zS zR aWX
 have e10:aVE.toList=opsL.flatMap λy=>y.flatMap λz=>[.string ⟨z.toArray⟩]:=by
  obtain⟨xs,m,_,hx,hl,hxl,WN⟩:=brX Tryz.underlying143 hd10
  have hd:(opsL.map λl=>(brY (l.map sC):DataW Unit))=xs.map (·.1):=by have:=congrArg Prod.fst hx;simpa using this
  rw[zO] at hl;rw[z6] at WN;have bfF:∀y∈opsL,(y.flatMap λz=>[(boS ⟨z.toArray⟩:Value)]).length=6:=by decide
  have Pn:∀(i:Nat) y,opsL[i]?=some y->(aVE.toList.drop (i*6)).take 6=y.flatMap λz=>[.string ⟨z.toArray⟩]:=by
   intro i y hy;have hi:i < 6:=(aBC.1 hy).1;have h2:=WN i hi;have hxi:xs[i]?=some xs[i]:=aBD (by omega);rw[hxi] at h2;have h3:(opsL.map λl=>(brY (l.map sC):DataW Unit))[i]?=(xs.map (·.1))[i]?:=by rw[hd]
   rw[biH,biH,hy,hxi] at h3;simp only[bhK,atS] at h3;have h4:xs[i]=(.agg (y.map sC),xs[i].2):=Prod.ext h3.symm rfl;rw[h4] at h2;exact PI (k:=1) sC (λy=>[.string ⟨y.toArray⟩]) (λ_=>rfl) jE Tryz.underlying142 zS z6 h2
  have l6:∀{l:List (List (List UInt8))}{cs:List Value},(∀y∈l,(y.flatMap λz=>[(boS ⟨z.toArray⟩:Value)]).length=6)->cs.length=l.length*6->(∀(i:Nat) y,l[i]?=some y->(cs.drop (i*6)).take 6=y.flatMap λz=>[.string ⟨z.toArray⟩])->cs=l.flatMap λy=>y.flatMap λz=>[.string ⟨z.toArray⟩]:=by
   intro l
   induction l with
   |nil=>intro cs _ h _;exact biJ (by simpa using h)
   |cons a l ih=>
    intro cs hq h hc;have h0:=hc 0 a rfl;rw[boQ,biT] at h0
    have:=ih (cs:=cs.drop 6) (λy hy=>hq y (by simp[hy])) (by rw[bhI,h,bhE,bmO];omega) λi y hy=>by
     rw[biU];have:=hc (i+1) y (by simpa using hy)
     rwa[bmO,bmP] at this
    rw[bnT,<- h0,<- this,blJ]
  exact l6 bfF (by rw[hl];rfl) Pn
 obtain⟨mx,hm⟩:=aPZ Gz;have Dc:=Mo.stW W;refine⟨mx,Dc.len,Dc.desc,Dc.nodup,Dc.low,Dc.box,Dc.Ia,Dc.row,Dc.IZ,Dc.NA,Dc.Ng,Dc.Ie,λg cs h=>?_,Dc.Sa,λg cs h=>⟨⟨by simp[Mo.Y7],λr n cap sz e=>by simp[Mo.Y7] at e⟩,?_⟩⟩;unfold Hd.G at h;split at h;rename_i hg;cases h;rw[beq_true hg];exact Y5 (JV gO aXQ) (by rw[e10];exact jS _ _ opsL);split at h;rename_i hg;cases h;rw[beq_true hg];exact Y5 (JV gR aXR) (by rw[e11];exact VG _ _ aRI);split at h;rename_i hg;cases h;rw[beq_true hg];exact Y5 (JV gB hv7) (by rw[e7];exact uB _ _ aMM);split at h;rename_i hg;cases h;rw[beq_true hg];exact Y5 (JV gC hv8) (by rw[e8];exact aeE _ _ _);split at h;rename_i hg;cases h;rw[beq_true hg];exact Y5 (JV gS hv9) (by rw[e9];exact VG _ _ _);split at h;rename_i hg;cases h;rw[beq_true hg];exact .cons (Mo.aSU hm) (.sc rfl) .nil;split at h;rename_i hg;cases h;rw[beq_true hg];exact Y5 (JV gP hv3) (by rw[e3];exact aeF _ _ _);cases h;unfold Hd.G at h;split at h;rename_i hg;cases h;rw[beq_true hg];exact nQ (JV gO aXQ) (by rw[e10];exact jS _ _ opsL);split at h;rename_i hg;cases h;rw[beq_true hg];exact nQ (JV gR aXR) (by rw[e11];exact VG _ _ aRI);split at h;rename_i hg;cases h;rw[beq_true hg];exact nQ (JV gB hv7) (by rw[e7];exact uB _ _ aMM);split at h;rename_i hg;cases h;rw[beq_true hg];exact nQ (JV gC hv8) (by rw[e8];exact aeE _ _ _);split at h;rename_i hg;cases h;rw[beq_true hg];exact nQ (JV gS hv9) (by rw[e9];exact VG _ _ _);split at h;rename_i hg;cases h;rw[beq_true hg];obtain⟨cs,t,f,q1,q2⟩:=atP Gz;exact⟨cs,t,f,q1,q2⟩;split at h;rename_i hg;cases h;rw[beq_true hg];exact nQ (JV gP hv3) (by rw[e3];exact aeF _ _ _);cases h
def adD{mx:Int}{f:FuncId}{args:List AV}{vs:List Value}{W:World}(Dc:St (Hd.G mx) (Mo.Y7 W) W s0)(h:Pure Tryz.prog (Hd.G mx) f args (.sc (.bool true)))(ha:Cw (Mo.Y7 W) W args vs):Calls Tryz.prog f vs.toArray W λe W'=>e=.returned (.bool true)/\Below W.heap.size W W':=by refine(h s0 (Mo.Y7 W) W vs Dc ha).mono ?_;rintro e w' ⟨c',hx,_,u,rfl,hu⟩;cases hu;exact⟨rfl,hx.below⟩
def aPV:DataW Unit->List Value
 |.lit l=>[l.value]
 |_=>[]
def aVZ:DataW Unit->List Value
 |.agg l=>l.flatMap aPV
 |d=>aPV d
def Wg:DataW Unit->Array Value
 |.agg l=>(l.flatMap aVZ).toArray
 |d=>(aPV d).toArray
def putCells(cs:Array Value):Obj->Obj
 |.cells _ t frozen=>.cells cs t frozen
 |o=>o
def low:Nat:=(btC Tryz.prog default ⟨#[],#[],[]⟩).heap.size
abbrev baO:ByteArray:={ data:=#[118,97,108,117,101,32,111,117,116,32,111,102,32,114,97,110,103,101] }
abbrev baP:ByteArray:={ data:=#[105,110,118,97,108,105,100,32,115,121,110,116,97,120] }
def Zg(os:Os):World :=
 let w0:=btC Tryz.prog os ⟨#[.cells #[.string baO] 210,.cells #[.string baP] 210],#[],[]⟩
 { w0 with heap:=((((((((((((w0.heap.modify 8 (putCells (Wg Rows.laid_math_bits_deBruijn32tab))).modify
     9 (putCells (Wg Rows.laid_math_bits_deBruijn64tab))).modify
     4 (putCells (Wg Rows.laid_internal_strconv_uint64pow10))).modify
     7 (putCells (Wg Rows.laid_unicode_utf8_acceptRanges))).modify
     11 (putCells #[.iface 208 (.pointer (some ⟨low,0,none⟩))])).modify
     10 (putCells #[.iface 208 (.pointer (some ⟨low+1,0,none⟩))])).modify
     12 (putCells (Wg Rows.laid_wageoffice_calendar_before))).modify
     3 (putCells (Wg Rows.laid_wageoffice_lexer_classes))).modify
     0 (putCells (Wg Rows.laid_wageoffice_lexer_symbols))).modify
     2 (putCells (Wg Rows.laid_wageoffice_parser_operators))).modify
     1 (putCells (Wg Rows.laid_wageoffice_parser_roles))).modify
     6 (putCells (Wg Rows.laid_unicode_utf8_first))) }
def asO(os:Os)(args:Array Value):laidMet Tryz.prog Rows.parserTreesRow.laid ((Zg os).forCall (λ_ _=>0) ⟨#[],args,[]⟩).memory :=
 laidMet_of_run3 8 (by kernel_rfl) (by kernel_rfl) (by kernel_rfl)
end Go.Proofs.YtpbkhogolfegfaaGreatDoor
namespace Go.Proofs.YtpbkhogolfegfaaGreatDoor
open Go
def seatTie1:Tryz.prog.laidByTextLater [("math/bits.deBruijn32tab",Rows.laid_math_bits_deBruijn32tab),("math/bits.deBruijn64tab",Rows.laid_math_bits_deBruijn64tab),("internal/strconv.uint64pow10",Rows.laid_internal_strconv_uint64pow10),("unicode/utf8.acceptRanges",Rows.laid_unicode_utf8_acceptRanges),("strconv.ErrRange",Rows.laid_strconv_ErrRange),("strconv.ErrSyntax",Rows.laid_strconv_ErrSyntax),("wageoffice/calendar.before",Rows.laid_wageoffice_calendar_before),("wageoffice/lexer.classes",Rows.laid_wageoffice_lexer_classes),("wageoffice/lexer.symbols",Rows.laid_wageoffice_lexer_symbols),("wageoffice/parser.operators",Rows.laid_wageoffice_parser_operators),("wageoffice/parser.roles",Rows.laid_wageoffice_parser_roles)] [.data,.data,.data,.data,.sentinel,.sentinel,.data,.data,.data,.data,.data] true :=
 Program.laidByTextLater_by_one 102 8 129 (by kernel_rfl) (by kernel_rfl) (by kernel_rfl) (by kernel_rfl) (by kernel_rfl) (by kernel_rfl) (λ_ _=>by kernel_rfl)
def pin_laid_unicode_utf8_first:Tryz.pinned.checked.prog.pinnedFits "unicode/utf8.first"=true:=by kernel_rfl
def noOwnUnsafe:Tryz.pinned.checked.prog.headLifts.contains "ownunsafe"=false:=by kernel_rfl
def fits1:Tryz.pinned.checked.prog.listedFits [("math/bits.deBruijn32tab",Rows.laid_math_bits_deBruijn32tab),("math/bits.deBruijn64tab",Rows.laid_math_bits_deBruijn64tab),("internal/strconv.uint64pow10",Rows.laid_internal_strconv_uint64pow10),("unicode/utf8.acceptRanges",Rows.laid_unicode_utf8_acceptRanges),("strconv.ErrRange",Rows.laid_strconv_ErrRange),("strconv.ErrSyntax",Rows.laid_strconv_ErrSyntax),("wageoffice/calendar.before",Rows.laid_wageoffice_calendar_before),("wageoffice/lexer.classes",Rows.laid_wageoffice_lexer_classes),("wageoffice/lexer.symbols",Rows.laid_wageoffice_lexer_symbols),("wageoffice/parser.operators",Rows.laid_wageoffice_parser_operators),("wageoffice/parser.roles",Rows.laid_wageoffice_parser_roles),("unicode/utf8.first",Rows.laid_unicode_utf8_first)]=true:=by
 unfold Program.listedFits;rw[noOwnUnsafe]
 kernel_rfl
def tie:Tryz.prog.laidByTextLater [("math/bits.deBruijn32tab",Rows.laid_math_bits_deBruijn32tab),("math/bits.deBruijn64tab",Rows.laid_math_bits_deBruijn64tab),("internal/strconv.uint64pow10",Rows.laid_internal_strconv_uint64pow10),("unicode/utf8.acceptRanges",Rows.laid_unicode_utf8_acceptRanges),("strconv.ErrRange",Rows.laid_strconv_ErrRange),("strconv.ErrSyntax",Rows.laid_strconv_ErrSyntax),("wageoffice/calendar.before",Rows.laid_wageoffice_calendar_before),("wageoffice/lexer.classes",Rows.laid_wageoffice_lexer_classes),("wageoffice/lexer.symbols",Rows.laid_wageoffice_lexer_symbols),("wageoffice/parser.operators",Rows.laid_wageoffice_parser_operators),("wageoffice/parser.roles",Rows.laid_wageoffice_parser_roles)] [.data,.data,.data,.data,.sentinel,.sentinel,.data,.data,.data,.data,.data] true :=
 Program.laidByTextLater.sub seatTie1 ["math/bits.deBruijn32tab","math/bits.deBruijn64tab","internal/strconv.uint64pow10","unicode/utf8.acceptRanges","strconv.ErrRange","strconv.ErrSyntax","wageoffice/calendar.before","wageoffice/lexer.classes","wageoffice/lexer.symbols","wageoffice/parser.operators","wageoffice/parser.roles"] (by kernel_rfl) (by kernel_rfl)
def parserMatchesReference_row_tie:Rows.parserMatchesReferenceRow.laidByTextAt .later Tryz.pinned [.data,.data,.data,.data,.sentinel,.sentinel,.data,.data,.data,.data,.data,.pinned] true :=
 OpenClaim.laidByTextAt_pinned rfl rfl tie rfl rfl rfl rfl (λy hy _e=>by
  simp only[Rows.parserMatchesReferenceRow,List.zip_cons_cons,List.zip_nil_right,bhJ,List.mem_nil_iff,or_false] at hy;rcases hy with rfl | rfl | rfl | rfl | rfl | rfl | rfl | rfl | rfl | rfl | rfl | rfl
  cases _e;cases _e;cases _e;cases _e;cases _e;cases _e;cases _e;cases _e;cases _e;cases _e;cases _e;exact⟨pin_laid_unicode_utf8_first,by kernel_rfl⟩) fits1
end Go.Proofs.YtpbkhogolfegfaaGreatDoor
namespace Go.Proofs.YtpbkhogolfegfaaGreatDoor
open AI Go
namespace Mo
set_option maxHeartbeats 4000000
variable {mx:Int}
def B61:Code:=BJ Tryz.f61
def b61:Tryz.f61.body=some B61:=by kernel_rfl
def aCZ{s:List Pc}(hl:s.length*24<=140737488355328):Pure P (G mx) 61 [.sl .lost s.length (rows Nz s)] (.sl .lost s.length (rows Nz s)):=by refine pure_nil (λhn hc=>?_) ?_;rw[hn,hc];exact ahN Hd.mixed Hd.W7 (QZ Tryz.func61 b61 (rE (v:=.sl .full 0 []) _ _ (aeH 300 [pk]) (by kernel_rfl) .body (.wn (.z .nil) rfl))) rfl rfl;by_cases hm:s.length=0;obtain rfl:=biJ hm;exact ahN Hd.mixed Hd.W7 (QZ Tryz.func61 b61 (rE (v:=.sl .full 0 []) _ _ (aeH 300 [pk,pga (bbY .full ([]:List Pc) ([]:List Pc) (o:=.nn) ⟨[],0,[],0⟩ rfl (by decide))]) (by kernel_rfl) .body (.wn (.z .nil) rfl))) rfl rfl;exact ahN Hd.mixed Hd.W7 (QZ Tryz.func61 b61 (rE (v:=.sl (.row 0 3) s.length (rows Nz s)) _ _ (aeH 300 [pk,Ox (I6.bcC u24 u24 i64 (by decide) .full ([]:List Pc) s (o:=.nn) (Wn.refl _) rfl (I6.abR (λ_=>rfl) s) hm (by rw[biV,bhC];exact hl) (by simp;omega))]) (by kernel_rfl) .body (.wn (.s rfl .nil) (I6.plS s)))) (Pa (aZM (I6.Pa s)) rfl) (I6.plS s)
def B60:Code:=BJ Tryz.f60
def b60:Tryz.f60.body=some B60:=by kernel_rfl
def apP{s:List Nd}(hm:¬s.length=0)(hl:s.length<=100000000):Sound P (G mx) (.call 60 [.sl .nn s.length (Br s)] ⟨[],0,[],0⟩ (.ret (.Im 0 0 s.length)) ⟨[(0,.cells (Br s))],1,[],0⟩):=by refine aRV Hd.mixed (aoD (m:=1) Tryz.func60 b60 ?_);exact aAT (n:=1) (m0:=0) Hd.W7 _ _ [0] [1] [⟨.Im 0 0 s.length,.Im 0 0 s.length,(.under rfl)⟩] [fbp (Br s) (Gq.Pa s)] _ _ (aeH 300 [pk,bfT (aUK s (o:=.nn) hm hl)]) (bjI _) (bjI _) (by kernel_rfl) .body
def nnI{c:Cx}{w:World}{n:Nat}{cs:List AV}{v:Value}(hm:¬n=0)(h:Rp c w (.sl .lost n cs) v):Rp c w (.sl .nn n cs) v:=by cases h with|sl0 _=>exact absurd rfl hm|Lt hn hc _=>exact .Lt hn hc trivial
def apN{s:List Nd}(hm:¬s.length=0)(hl:s.length<=100000000):Sound P (G mx) (.call 60 [.sl .lost s.length (Br s)] ⟨[],0,[],0⟩ (.ret (.Im 0 0 s.length)) ⟨[(0,.cells (Br s))],1,[],0⟩):=by intro cx w vs hs ha;refine apP hm hl cx w vs hs ?_;cases ha with|cons h1 t=>exact .cons (nnI hm h1) t
def apO{s:List Nd}(hm:¬s.length=0)(hl:s.length<=100000000)(nx nr:Nat):Cd.ok P (G mx) (.mY 60 [.sl .lost s.length (Br s)] nx nr (.Im (nx+0) 0 s.length) [((nx+0),.cells (Br s))] 1 [] 0) :=
 aNR Hd.W7 (apN hm hl) (Pa (Gq.plS s) rfl) (.Im (by decide)) (.cons (.cells (.pl (Gq.Pa s))) .nil)
def IL:Code:=BJ Tryz.f24
def b24:Tryz.f24.body=some IL:=by kernel_rfl
def uP:P.underlying 88=some (.slice 87):=by kernel_rfl
def sE:(P.info? 87).map (·.size)=some 1:=by kernel_rfl
def dE:(P.underlying 87).map OP=some false:=by kernel_rfl
def sL:(P.info? 27).map (·.size)=some 1:=by kernel_rfl
def dL:(P.underlying 27).map OP=some false:=by kernel_rfl
def sQ:(P.info? 24).map (·.size)=some 1:=by kernel_rfl
def dQ:(P.underlying 24).map OP=some false:=by kernel_rfl
def sI:(P.info? 3).map (·.size)=some 1:=by kernel_rfl
def zN(n:Nd):Nd:=⟨n.kind,n.name,n.unit,n.n,n.fr,n.to,n.known,n.CW,n.kids,0⟩
def Ma(L:List Nd)(i:Nat):List Nd:=(L.take i).map zN++L.drop i
def atU(L:List Nd):Ma L 0=L:=by simp[Ma]
def aCG(L:List Nd):Ma L L.length=L.map zN:=by simp[Ma]
def agY(L:List Nd)(i:Nat)(h:i<=L.length):(Ma L i).length=L.length:=by simp[Ma];omega
def aCH{L:List Nd}{i:Nat}{x:Nd}(h:L[i]?=some x):(Ma L i)[i]?=some x:=by have hl:=(aBC.1 h).1;unfold Ma;rw[List.getElem?_append_right (by simp;omega),List.getElem?_drop];simp only[biE,biM];rw[show min i L.length=i by omega,Nat.sub_self,bjU];exact h
def xY{L:List Nd}{i:Nat}{x:Nd}(h:L[i]?=some x):(Ma L i).set i (zN x)=Ma L (i+1):=by
 obtain⟨hl,hx⟩:=aBC.1 h;unfold Ma;have e1:L.drop i=x::L.drop (i+1):=by rw[<- hx];exact List.drop_eq_getElem_cons hl
 have e2:L.take (i+1)=L.take i++[x]:=by rw[<- hx];exact(bpT hl).symm
 rw[e1,e2,List.set_append_right _ _ (by simp;omega),bjC,bjX];simp only[biE,biM];rw[show i - min i L.length=0 by omega];rfl
def aaF{α:Type}{l:List α}{i:Nat}{x:α}(h:l[i]?=some x):l.set i x=l:=by obtain⟨hl,hx⟩:=aBC.1 h;rw[<- hx];exact List.set_getElem_self hl
def pAt(nx:Nat)(L:List Nd)(i:Nat):List (Nat×Nat):=match L[i]? with
 |some k=>(match k.kids with|[]=>[]|_::_=>[(nx,0+i*11+9)])
 |none=>[]
def kP(nx:Nat)(L:List Nd)(i:Nat):List (Nat×Nat):=(bjD i).flatMap (pAt nx L)
def dF(nx:Nat)(L:List Nd)(i:Nat):kP nx L (i+1)=kP nx L i++pAt nx L i:=by unfold kP;rw[bsJ,bqU];simp
def auX(nx:Nat)(L:List Nd)(i:Nat):(pAt nx L i).length<=1:=by
 unfold pAt;split;split<;>simp
 simp
def aJE(nx:Nat)(L:List Nd):∀i:Nat,(kP nx L i).length<=i
 |0=>by simp[kP]
 |i+1=>by rw[dF,aWQ];have:=aJE nx L i;have:=auX nx L i;omega
abbrev FOs(g k cap:Nat)(j:List Value):List AV:=fr 72 [(2,.ptr 1 0),(3,.ptr 2 0),(4,.raw (some ⟨g,0,none⟩) k cap)] [13,36,61] j
abbrev FT(g k cap id off:Nat)(j:List Value):List AV:=fr 72 [(2,.ptr 1 0),(3,.ptr 2 0),(4,.raw (some ⟨g,0,none⟩) k cap),(5,.ptr id off)] [13,36,61] j
abbrev FI(g k cap id off n i:Nat)(j:List Value):List AV:=fr 72 [(2,.ptr 1 0),(3,.ptr 2 0),(4,.raw (some ⟨g,0,none⟩) k cap),(5,.ptr id off),(34,.sc (.int .i64 n)),(35,.sc (.int .i64 i))] [13,36,61] j
abbrev FL(g k cap id off n i:Nat)(j:List Value):List AV:=fr 72 [(2,.ptr 1 0),(3,.ptr 2 0),(4,.raw (some ⟨g,0,none⟩) k cap),(5,.ptr id off),(6,.sc (.int .i64 i)),(34,.sc (.int .i64 n)),(35,.sc (.int .i64 i))] [13,36,61] j
abbrev FK(g k cap id off n i nx:Nat)(j:List Value):List AV:=fr 72 [(2,.ptr 1 0),(3,.ptr 2 0),(4,.raw (some ⟨g,0,none⟩) k cap),(5,.ptr id off),(7,.ptr nx (0+i*11)),(34,.sc (.int .i64 n)),(35,.sc (.int .i64 i))] [13,36,61] j
section
variable {b:Nat}{B:Nat->Nat->Prop}{w0:World}{g cap:Nat}{ps:List (Nat×Nat)}{s:AS}{Q:QE}{j:List Value}
def bcD{k:Nat}(h:k≠0):Cy 0 ((k:Nat):Int)=true:=En (by omega)
def arO(t:Bool)(k:Nat)(hB:Cy 0 ((k:Nat):Int)=t)(h:∀f,AY (G mx) f (.tmp 13)=some (.sc (.bool t))->wkF f (FOs g k cap (js 3 j [(0,.bool t)]))=FOs g k cap (js 3 j [(0,.bool t)])->Q .normal f s (E3 b B w0 g cap ps)):WE P (G mx) (E3 b B w0 g cap ps) (sb IL 480) (FOs g k cap j) s Q:=by
 have hr:Vi (sb IL 480) 3=true:=by kernel_rfl
 refine .reg hr ?_;show R9 P (G mx) _ _ [0,1,2] _ _ _;refine .q Hd.mixed E3.GY hr (by decide) (.raw (some ⟨g,0,none⟩) k cap) (by kernel_rfl) (by kernel_rfl) ?_;refine .len hr (by decide) (x:=.tmp 11) (t:=88) (A:=some ⟨g,0,none⟩) (k:=k) (cap:=cap) (by kernel_rfl) uP (by kernel_rfl) ?_;refine .hb Hd.mixed E3.GY hr (by decide) t hB (by kernel_rfl) ?_;exact .nil (h _ (by kernel_rfl) (by kernel_rfl))
def aZN{p:Nat×Nat}(hk:ps.length<=100000000)(h:WE P (G mx) (E3 b B w0 g cap ps) (sb IL 1931) (FT g ps.length cap p.1 p.2 j) s Q):WE P (G mx) (E3 b B w0 g cap (ps++[p])) (sb IL 482) (FOs g (ps++[p]).length cap j) s Q:=by
 have hw:Jq (((ps++[p]).length:Nat):Int) 1=((ps.length:Nat):Int):=by rw[aWQ,bhF,FW (by omega)];omega
 refine .V7 (x:=sb IL 964) (y:=sb IL 965) (by kernel_rfl) ?_;have hr:Vi (sb IL 964) 7=true:=by kernel_rfl
 refine .reg hr ?_;show R9 P (G mx) _ _ [0,1,2,3,4,5,6] _ _ _;refine .q Hd.mixed E3.GY hr (by decide) (.raw (some ⟨g,0,none⟩) (ps++[p]).length cap) (by kernel_rfl) (by kernel_rfl) ?_;refine .q Hd.mixed E3.GY hr (by decide) (.raw (some ⟨g,0,none⟩) (ps++[p]).length cap) (by kernel_rfl) (by kernel_rfl) ?_;refine .len hr (by decide) (x:=.tmp 15) (t:=88) (A:=some ⟨g,0,none⟩) (k:=(ps++[p]).length) (cap:=cap) (by kernel_rfl) uP (by kernel_rfl) ?_;refine .hi Hd.mixed E3.GY hr (by decide) ((ps.length:Nat):Int) hw (by kernel_rfl) ?_;refine .top hr (by decide) (t:=88) (t2:=87) (e:=87) (d:=18) (x:=.tmp 14) (y:=.tmp 17) (by kernel_rfl) (by kernel_rfl) (by kernel_rfl) uP sE dE sE (by kernel_rfl) (by kernel_rfl) (by kernel_rfl) ?_;refine .q Hd.mixed E3.GY hr (by decide) (.ptr p.1 p.2) (by kernel_rfl) (by kernel_rfl) ?_;refine .nil ⟨rfl,?_⟩;refine .wk (fr2:=FT g (ps++[p]).length cap p.1 p.2 j) (by kernel_rfl) ?_;refine .V7 (x:=sb IL 1930) (y:=sb IL 1931) (by kernel_rfl) ?_;have hr:Vi (sb IL 1930) 6=true:=by kernel_rfl
 refine .reg hr ?_;show R9 P (G mx) _ _ [0,1,2,3,4,5] _ _ _;refine .q Hd.mixed E3.GY hr (by decide) (.raw (some ⟨g,0,none⟩) (ps++[p]).length cap) (by kernel_rfl) (by kernel_rfl) ?_;refine .q Hd.mixed E3.GY hr (by decide) (.raw (some ⟨g,0,none⟩) (ps++[p]).length cap) (by kernel_rfl) (by kernel_rfl) ?_;refine .len hr (by decide) (x:=.tmp 21) (t:=88) (A:=some ⟨g,0,none⟩) (k:=(ps++[p]).length) (cap:=cap) (by kernel_rfl) uP (by kernel_rfl) ?_;refine .hi Hd.mixed E3.GY hr (by decide) ((ps.length:Nat):Int) hw (by kernel_rfl) ?_;refine .bfU hr (by decide) (t:=88) (e:=87) (x:=.tmp 20) (y:=.tmp 23) (by kernel_rfl) uP sE (by kernel_rfl) (by kernel_rfl) ?_;refine .q Hd.mixed E3.GY hr (by decide) (.raw (some ⟨g,0,none⟩) ps.length cap) (by kernel_rfl) (by kernel_rfl) ?_;refine .nil ⟨rfl,?_⟩;exact .wk (by kernel_rfl) h
variable {id off nx:Nat}{L:List Nd}
def aAB{H:List (Nat×Ay)}{cs:List AV}(hid:id < nx)(dA:AI.look id H=some (.cells cs))(UU:cs[off]?=some (.sl .lost L.length (Br L)))(hL:¬L.length=0)(hl:L.length<=100000000)
   (h:WE P (G mx) (E3 b B w0 g cap ps) (sb IL 7727) (FI g ps.length cap id off L.length 0 j) ⟨(nx,.cells (Br L))::T9 id (.cells (cs.set off (.Im nx 0 L.length))) H,nx+1,[],0⟩ Q):
   WE P (G mx) (E3 b B w0 g cap ps) (sb IL 1931) (FT g ps.length cap id off j) ⟨H,nx,[],0⟩ Q:=by
 have hne:nx≠id:=by omega
 have hlt:=(aBC.1 UU).1;have bcO:(cs.set off (.Im nx 0 L.length))[off]?=some (.Im nx 0 L.length):=biW hlt;refine .V7 (x:=sb IL 3862) (y:=sb IL 3863) (by kernel_rfl) ?_;refine .run Hd.mixed E3.GY [adU (x:=AI.look id H) (mX dL sL UU) dA,aQR (apO hL hl nx 0),aDE (x:=AI.look id ((nx,.cells (Br L))::H)) (v:=.Im nx 0 L.length) (off:=off) (aoT (cs2:=cs.set off (.Im nx 0 L.length)) sL hlt rfl) ((sD hne).trans dA)] (e:=.normal) (fr2:=FT g ps.length cap id off j) (s2:=⟨T9 id (.cells (cs.set off (.Im nx 0 L.length))) ((nx,.cells (Br L))::H),nx+1,[],0⟩) (by kernel_rfl) (by intro v h;cases h) ⟨rfl,?_⟩;rw[aSS hne];refine .V7 (x:=sb IL 7726) (y:=sb IL 7727) (by kernel_rfl) ?_;exact .aeG Hd.mixed E3.GY [adU (x:=AI.look id ((nx,.cells (Br L))::T9 id (.cells (cs.set off (.Im nx 0 L.length))) H)) (mX dL sL bcO) ((sD hne).trans (iO dA))] (e:=.normal) (fr2:=FI g ps.length cap id off L.length 0 j) (by kernel_rfl) (by intro v h;cases h) ⟨rfl,h⟩
def aQV{i n:Nat}{s:AS}(hk:ps.length+1<=100000000):WE P (G mx) (E3 b B w0 g cap ps) (sb IL 31650622) (FK g ps.length cap id off n i nx j) s (λe f s' E=>∃g' cap',e=.normal/\wkF f (FK g' (ps++[(nx,0+i*11+9)]).length cap' id off n i nx j)=FK g' (ps++[(nx,0+i*11+9)]).length cap' id off n i nx j/\s'=s/\E=E3 b B w0 g' cap' (ps++[(nx,0+i*11+9)])):=by
 have hr:Vi (sb IL 31650622) 7=true:=by kernel_rfl
 refine .reg hr ?_;show R9 P (G mx) _ _ [0,1,2,3,4,5,6] _ _ _;refine .q Hd.mixed E3.GY hr (by decide) (.raw (some ⟨g,0,none⟩) ps.length cap) (by kernel_rfl) (by kernel_rfl) ?_;refine .q Hd.mixed E3.GY hr (by decide) (.ptr nx (0+i*11)) (by kernel_rfl) (by kernel_rfl) ?_;refine .q Hd.mixed E3.GY hr (by decide) (.ptr nx (0+i*11)) (by kernel_rfl) (by kernel_rfl) ?_;refine .q Hd.mixed E3.GY hr (by decide) (.ptr nx (0+i*11+9)) (by kernel_rfl) (by kernel_rfl) ?_;refine .q Hd.mixed E3.GY hr (by decide) (.sl .full 1 [.ptr nx (0+i*11+9)]) (by kernel_rfl) (by kernel_rfl) ?_;refine .push hr (by decide) (t:=88) (tx:=88) (e:=87) (e2:=87) (id:=nx) (off:=0+i*11+9) (x:=.tmp 62) (y:=.tmp 66) (by kernel_rfl) uP uP (by kernel_rfl) (by kernel_rfl) (by kernel_rfl) hk (λg' cap'=>?_);refine .q Hd.mixed E3.GY hr (by decide) (.raw (some ⟨g',0,none⟩) (ps++[(nx,0+i*11+9)]).length cap') (by kernel_rfl) (by kernel_rfl) ?_;exact .nil ⟨g',cap',rfl,by kernel_rfl,rfl,rfl⟩
def auF{T:List (Nat×Ay)}{cs:List AV}{i:Nat}{x:Nd}(hid:id < nx)(dA:AI.look id T=some (.cells cs))(UU:cs[off]?=some (.Im nx 0 L.length))(hx:L[i]?=some x)(hp:x.CW.ps.length*24<=140737488355328)(t:Bool)(hB:Cy 0 ((x.kids.length:Nat):Int)=t)
   (h:WE P (G mx) (E3 b B w0 g cap ps) (sb IL 15825311) (FK g ps.length cap id off L.length i nx (js 3 j [(2,.bool t)])) ⟨(nx,.cells (Br (Ma L (i+1))))::T,nx+1,[],0⟩ Q):
   WE P (G mx) (E3 b B w0 g cap ps) (sb IL 494540) (FI g ps.length cap id off L.length i j) ⟨(nx,.cells (Br (Ma L i)))::T,nx+1,[],0⟩ Q:=by
 have hi:=(aBC.1 hx).1;have hne:nx≠id:=by omega
 have bdD:∀b:Ay,AI.look id ((nx,b)::T)=some (.cells cs):=λb=>(sD hne).trans dA;have hm:=aCH hx;have hl:=agY L i (by omega);have hm2:(Ma L (i+1))[i]?=some (zN x):=by rw[<- xY hx];exact biW (by omega)
 have hl2:=agY L (i+1) (by omega);have hN:∀y:Nd,(Dh y).length=11:=λ_=>rfl;refine .V7 (x:=sb IL 989080) (y:=sb IL 989081) (by kernel_rfl) ?_;refine .aeG Hd.mixed E3.GY [] (e:=.normal) (fr2:=FL g ps.length cap id off L.length i j) (by kernel_rfl) (by intro v h;cases h) ⟨rfl,?_⟩;refine .V7 (x:=sb IL 1978162) (y:=sb IL 1978163) (by kernel_rfl) ?_;refine .aeG Hd.mixed E3.GY [adU (x:=AI.look id ((nx,.cells (Br (Ma L i)))::T)) (mX dL sL UU) (bdD _),ED (aJC (id:=nx) hi)] (e:=.normal) (fr2:=FK g ps.length cap id off L.length i nx j) (by kernel_rfl) (by intro v h;cases h) ⟨rfl,?_⟩;refine .V7 (x:=sb IL 3956326) (y:=sb IL 3956327) (by kernel_rfl) ?_;refine .run Hd.mixed E3.GY [aDE (x:=AI.look nx ((nx,.cells (Br (Ma L i)))::T)) (v:=.sc (.int .i64 0)) (off:=0+i*11+10) (aoT (cs2:=Br ((Ma L i).set i (zN x))) sI (by rw[LZ,HU hN,hl];omega) (by rw[LZ,LZ,zX hN (j:=10) (y:=zN x) (v:=.sc (.int .i64 0)) hm (by decide) rfl,bhC])) dI] (e:=.normal) (fr2:=FK g ps.length cap id off L.length i nx j) (s2:=⟨T9 nx (.cells (Br ((Ma L i).set i (zN x)))) ((nx,.cells (Br (Ma L i)))::T),nx+1,[],0⟩) (by kernel_rfl) (by intro v h;cases h) ⟨rfl,?_⟩;rw[ayE,xY hx]
 have c8:(Br (Ma L (i+1)))[0+i*11+7+1]?=some (.sl .lost x.CW.ps.length (rows Nz x.CW.ps)):=by rw[LZ,show 0+i*11+7+1=i*11+8 by omega,dO hN hm2 (by decide)];rfl
 have c9:(Br (Ma L (i+1)))[0+i*11+9]?=some (.sl .lost x.kids.length (Br x.kids)):=by rw[LZ,bhC,dO hN hm2 (by decide)];rfl
 refine .V7 (x:=sb IL 7912654) (y:=sb IL 7912655) (by kernel_rfl) ?_;refine .run Hd.mixed E3.GY [adU (x:=AI.look nx ((nx,.cells (Br (Ma L (i+1))))::T)) (mX dQ sQ c8) dI,AH (aCZ hp),aDE (x:=AI.look nx ((nx,.cells (Br (Ma L (i+1))))::T)) (off:=0+i*11+7+1) (aoT (cs2:=Br (Ma L (i+1))) sQ (by rw[LZ,HU hN,hl2];omega) (aaF c8).symm) dI] (e:=.normal) (fr2:=FK g ps.length cap id off L.length i nx j) (s2:=⟨T9 nx (.cells (Br (Ma L (i+1)))) ((nx,.cells (Br (Ma L (i+1))))::T),nx+1,[],0⟩) (by kernel_rfl) (by intro v h;cases h) ⟨rfl,?_⟩;rw[ayE];refine .V7 (x:=sb IL 15825310) (y:=sb IL 15825311) (by kernel_rfl) ?_;exact .aeG Hd.mixed E3.GY [adU (x:=AI.look nx ((nx,.cells (Br (Ma L (i+1))))::T)) (mX dL sL c9) dI,pb hB] (e:=.normal) (fr2:=FK g ps.length cap id off L.length i nx (js 3 j [(2,.bool t)])) (by kernel_rfl) (by intro v h;cases h) ⟨rfl,h⟩
def aCU{i:Nat}{x:Nd}(hx:L[i]?=some x)(hk:x.kids=[]):pAt nx L i=[]:=by unfold pAt;rw[hx];simp only;rw[hk]
def aCV{i:Nat}{x:Nd}(hx:L[i]?=some x)(hk:x.kids≠[]):pAt nx L i=[(nx,0+i*11+9)]:=by unfold pAt;rw[hx];simp only;cases h:x.kids with|nil=>exact absurd h hk|cons a l=>rfl
def aDU{T:List (Nat×Ay)}{cs:List AV}{i:Nat}{x:Nd}(hid:id < nx)(dA:AI.look id T=some (.cells cs))(UU:cs[off]?=some (.Im nx 0 L.length))(hx:L[i]?=some x)(hp:x.CW.ps.length*24<=140737488355328)(hb:(ps++kP nx L i).length+1<=100000000)(hi6:i < 9223372036854775807)
   (h:∀g' cap' j',Q .normal (FI g' (ps++kP nx L (i+1)).length cap' id off L.length (i+1) j') ⟨(nx,.cells (Br (Ma L (i+1))))::T,nx+1,[],0⟩ (E3 b B w0 g' cap' (ps++kP nx L (i+1)))):
   WE P (G mx) (E3 b B w0 g cap (ps++kP nx L i)) (sb IL 123635) (FI g (ps++kP nx L i).length cap id off L.length i j) ⟨(nx,.cells (Br (Ma L i)))::T,nx+1,[],0⟩ Q:=by
 have fin:∀g' cap' j',WE P (G mx) (E3 b B w0 g' cap' (ps++kP nx L (i+1))) (sb IL 247271) (FK g' (ps++kP nx L (i+1)).length cap' id off L.length i nx j') ⟨(nx,.cells (Br (Ma L (i+1))))::T,nx+1,[],0⟩ Q:=λg' cap' j'=>
  .aeG Hd.mixed E3.GY [AI.pi hi6] (e:=.normal) (fr2:=FI g' (ps++kP nx L (i+1)).length cap' id off L.length (i+1) j') (by kernel_rfl) (by intro v h;cases h) (h g' cap' j')
 refine .V7 (x:=sb IL 247270) (y:=sb IL 247271) (by kernel_rfl) ?_;have hc:sb IL 247270=.block 3 (sb IL 494540):=by kernel_rfl
 rw[hc];refine .block ?_;by_cases hk:x.kids=[];have hs:kP nx L (i+1)=kP nx L i:=by rw[dF,aCU hx hk,bkW]
 refine auF hid dA UU hx hp false (Dv (by rw[hk];simp)) ?_;refine .nD false (x:=sb IL 31650622) (y:=sb IL 31650623) (q:=.tmp 61) (by kernel_rfl) (by kernel_rfl) ?_;rw[if_neg (by decide),show sb IL 31650623=.skip by kernel_rfl];refine .skip ⟨rfl,?_⟩;have:=fin g cap (js 3 j [(2,.bool false)]);rwa[hs] at this;have hs:kP nx L (i+1)=kP nx L i++[(nx,0+i*11+9)]:=by rw[dF,aCV hx hk]
 refine auF hid dA UU hx hp true (En (by have:=List.length_pos_iff.2 hk;omega)) ?_;refine .nD true (x:=sb IL 31650622) (y:=sb IL 31650623) (q:=.tmp 61) (by kernel_rfl) (by kernel_rfl) ?_;rw[if_pos rfl];refine(aQV hb).mono ?_;rintro e f s' E ⟨g',cap',rfl,hf,rfl,rfl⟩;refine⟨rfl,.wk hf ?_⟩;have:=fin g' cap' (js 3 j [(2,.bool true)]);rwa[hs,<- bjX] at this
def aPX{T:List (Nat×Ay)}{cs:List AV}(hid:id < nx)(dA:AI.look id T=some (.cells cs))(UU:cs[off]?=some (.Im nx 0 L.length))(hp:∀x∈L,x.CW.ps.length*24<=140737488355328)(hb:ps.length+L.length<=100000000)
   (h:∀g' cap' j',Q .normal (FOs g' (ps++kP nx L L.length).length cap' j') ⟨(nx,.cells (Br (L.map zN)))::T,nx+1,[],0⟩ (E3 b B w0 g' cap' (ps++kP nx L L.length))):
   WE P (G mx) (E3 b B w0 g cap ps) (sb IL 7727) (FI g ps.length cap id off L.length 0 j) ⟨(nx,.cells (Br L))::T,nx+1,[],0⟩ Q:=by
 rw[show sb IL 7727=.block 2 (.loop (sb IL 30908)) by kernel_rfl];refine .block ?_;refine .loop (λm f s E=>∃i g cap j,i+m=L.length/\f=FI g (ps++kP nx L i).length cap id off L.length i j/\s=⟨(nx,.cells (Br (Ma L i)))::T,nx+1,[],0⟩/\E=E3 b B w0 g cap (ps++kP nx L i)) ?_ (m:=L.length) ⟨0,g,cap,j,by omega,by simp[kP],by rw[atU],by simp[kP]⟩;rintro m _ _ _ ⟨i,g,cap,j,him,rfl,rfl,rfl⟩;refine .seqB (x:=sb IL 61816) (y:=sb IL 61817) (by kernel_rfl) ?_;by_cases hi:i < L.length;refine .aeG Hd.mixed E3.GY [pb (XH hi)] (e:=.normal) (fr2:=FI g (ps++kP nx L i).length cap id off L.length i (js 3 j [(1,.bool true)])) (by kernel_rfl) (by intro v h;cases h) (.inl ⟨rfl,?_⟩);refine .V7 (x:=sb IL 123634) (y:=sb IL 123635) (by kernel_rfl) ?_;refine .nD true (x:=sb IL 247268) (y:=sb IL 247269) (q:=.tmp 36) (by kernel_rfl) (by kernel_rfl) ?_;rw[if_pos rfl,show sb IL 247268=.skip by kernel_rfl];refine .skip ⟨rfl,?_⟩;have hx:L[i]?=some L[i]:=aBD hi;refine aDU hid dA UU hx (hp _ (List.getElem_mem hi)) (by rw[aWQ];have:=aJE nx L i;omega) (by omega) (λg' cap' j'=>.inl ⟨rfl,m - 1,by omega,i+1,g',cap',j',by omega,rfl,rfl,rfl⟩);have he:i=L.length:=by omega
 subst he;refine .aeG Hd.mixed E3.GY [pb (ltF (i:=L.length) (n:=L.length) (aWP _))] (e:=.normal) (fr2:=FI g (ps++kP nx L L.length).length cap id off L.length L.length (js 3 j [(1,.bool false)])) (by kernel_rfl) (by intro v h;cases h) (.inl ⟨rfl,?_⟩);refine .seqB (x:=sb IL 123634) (y:=sb IL 123635) (by kernel_rfl) ?_;refine .nD false (x:=sb IL 247268) (y:=sb IL 247269) (q:=.tmp 36) (by kernel_rfl) (by kernel_rfl) ?_;rw[if_neg (by decide),show sb IL 247269=.exit 2 by kernel_rfl];refine .wk (fr2:=FOs g (ps++kP nx L L.length).length cap (js 3 j [(1,.bool false)])) (by kernel_rfl) (.exit (.inr ⟨(by intro h;cases h),.inr ⟨(by intro h;cases h),?_⟩⟩));rw[aCG];exact h g cap _
end
abbrev Bx:=List (Nd×Option Nat)
def kcC(n:Nd):Option Nat->AV
 |none=>.sl .lost n.kids.length (Br n.kids)
 |some id=>.Im id 0 n.kids.length
def xZ(p:Nd×Option Nat):List AV:=[.sc (.int .i64 p.1.kind),.sc (.string p.1.name),.sc (.string p.1.unit),.sc (.int .i64 p.1.n),.sc (.int .i64 p.1.fr),.sc (.int .i64 p.1.to),.sc (.int .i64 p.1.known),.sc (.int .i64 p.1.CW.den),.sl .lost p.1.CW.ps.length (rows Nz p.1.CW.ps),kcC p.1 p.2,.sc (.int .i64 p.1.AO)]
def bxC(l:Bx):List AV:=rows xZ l
def dJ(p:Nd×Option Nat):(xZ p).length=11:=rfl
def vS(L:List Nd):bxC (L.map λn=>(n,none))=Br L:=by rw[LZ];unfold bxC rows;rw[List.flatMap_map];rfl
def a1:Ay:=.cells [.sc (.int .i64 0),.sc (.string gT),.sc (.string gT),.sc (.int .i64 0),.sc (.int .i64 0),.sc (.int .i64 0),.sc (.int .i64 0),.sc (.int .i64 0),.sl .full 0 [],.sl .full 0 [],.sc (.int .i64 0)]
def rkC(n0:Nd):Option Nat->AV
 |none=>.sl .lost [n0].length (Br [n0])
 |some c=>.Im c 0 [n0].length
def aUE(rk:Option Nat)(n0:Nd):List (Nat×Ay):=[(2,.cells [rkC n0 rk]),(1,a1),(0,.cells (Dh n0))]
def HH(rk:Option Nat)(n0:Nd)(M:List Bx):List (Nat×Ay):=Hq (M.map λl=>.cells (bxC l)) 3 (aUE rk n0)
def afI{rk:Option Nat}{n0:Nd}{M:List Bx}{id:Nat}(h:id < 3):AI.look id (HH rk n0 M)=AI.look id (aUE rk n0):=Wm h
def aoA{rk:Option Nat}{n0:Nd}{M:List Bx}{i:Nat}{l:Bx}(h:M[i]?=some l):AI.look (3+i) (HH rk n0 M)=some (.cells (bxC l)):=mB (by rw[biH,h];rfl)
def azA{rk:Option Nat}{n0:Nd}{M:List Bx}(c:Nat):T9 2 (.cells [rkC n0 (some c)]) (HH rk n0 M)=HH (some c) n0 M:=YK (by decide)
def aLZ{rk:Option Nat}{n0:Nd}{M:List Bx}{i:Nat}{l:Bx}(hi:i < M.length):T9 (3+i) (.cells (bxC l)) (HH rk n0 M)=HH rk n0 (M.set i l):=by unfold HH;rw[uJ (by simpa using hi),btK]
def afJ{rk:Option Nat}{n0:Nd}{M:List Bx}{l:Bx}:HH rk n0 (M++[l])=(3+M.length,.cells (bxC l))::HH rk n0 M:=by unfold HH;rw[bjC,List.map_singleton,adI,biE]
mutual
def cN:Nd->Nat
 |⟨_,_,_,_,_,_,_,_,kids,_⟩=>1+cL kids
def cL:List Nd->Nat
 |[]=>0
 |k::ks=>cN k+cL ks
end
def apC(n:Nd):cN n=1+cL n.kids:=by cases n;rw[cN]
def aoY:∀l m:List Nd,cL (l++m)=cL l+cL m
 |[],m=>by simp[cL]
 |a::l,m=>by rw[List.cons_append,cL,cL,aoY l m];omega
def aoZ:∀l:List Nd,l.length<=cL l
 |[]=>by simp
 |a::l=>by rw[bhE,cL,apC];have:=aoZ l;omega
mutual
def U9:Nd->Prop
 |⟨_,_,_,_,_,_,_,CW,kids,_⟩=>CW.ps.length*24<=140737488355328/\psL kids
def psL:List Nd->Prop
 |[]=>True
 |k::ks=>U9 k/\psL ks
end
def ahM:∀l:List Nd,psL l↔∀k∈l,U9 k
 |[]=>by simp[psL]
 |a::l=>by rw[psL,ahM l];simp
def M0(n:Nd):U9 n↔n.CW.ps.length*24<=140737488355328/\∀k∈n.kids,U9 k:=by cases n;rw[U9,ahM]
mutual
def Jr:Nd->Nd
 |⟨kind,name,unit,n,fr,to,known,CW,kids,_⟩=>⟨kind,name,unit,n,fr,to,known,CW,stL kids,0⟩
def stL:List Nd->List Nd
 |[]=>[]
 |k::ks=>Jr k::stL ks
end
def aiB:∀l:List Nd,stL l=l.map Jr
 |[]=>by rw[stL];rfl
 |k::l=>by rw[stL,aiB l];rfl
def Na(n:Nd):Jr n=⟨n.kind,n.name,n.unit,n.n,n.fr,n.to,n.known,n.CW,n.kids.map Jr,0⟩:=by cases n;rw[Jr,aiB]
def awP(n:Nd):Jr (zN n)=Jr n:=by rw[Na,Na];rfl
structure Inv(n0:Nd)(rk:Option Nat)(M:List Bx)(qs:List ((Nat×Nat)×List Nd)):Prop where
 aDD:∀q∈qs,(q.1=(2,0)/\rk=none/\q.2=[n0])\/∃(i a:Nat)(l:Bx)(m:Nd),q.1=(3+i,0+a*11+9)/\M[i]?=some l/\l[a]?=some (m,none)/\q.2=m.kids/\m.kids≠[]
 aVG:(qs.map (·.1)).Nodup
 all:(rk=none->(2,0)∈qs.map (·.1))/\∀(i a:Nat)(l:Bx)(m:Nd),M[i]?=some l->l[a]?=some (m,none)->m.kids≠[]->(3+i,0+a*11+9)∈qs.map (·.1)
 done:∀(i a:Nat)(l:Bx)(m:Nd)(c:Nat),M[i]?=some l->l[a]?=some (m,some c)->∃(i2:Nat)(l2:Bx),c=3+i2/\i < i2/\M[i2]?=some l2/\l2.map (·.1)=m.kids.map zN
 root:∀c,rk=some c->∃(i2:Nat)(l2:Bx),c=3+i2/\M[i2]?=some l2/\l2.map (·.1)=[zN n0]
 small:∀q∈qs,∀x∈q.2,U9 x
 zero:∀(i a:Nat)(l:Bx)(m:Nd)(c:Option Nat),M[i]?=some l->l[a]?=some (m,c)->m.AO=0
def mu(qs:List ((Nat×Nat)×List Nd)):Nat:=(qs.map λq=>1+cL q.2).sum
def sO(l m:List ((Nat×Nat)×List Nd)):mu (l++m)=mu l+mu m:=by simp[mu]
def atY(qs:List ((Nat×Nat)×List Nd)):qs.length<=mu qs:=by
 induction qs with
 |nil=>simp
 |cons q qs ih=>
  have:mu (q::qs)=1+cL q.2+mu qs:=by simp[mu]
  rw[this,bhE];omega
def qAt(nx:Nat)(L:List Nd)(i:Nat):List ((Nat×Nat)×List Nd):=match L[i]? with
 |some k=>(match k.kids with|[]=>[]|x::y=>[((nx,0+i*11+9),x::y)])
 |none=>[]
def kQ(nx:Nat)(L:List Nd)(i:Nat):List ((Nat×Nat)×List Nd):=(bjD i).flatMap (qAt nx L)
def rY(nx:Nat)(L:List Nd)(i:Nat):kQ nx L (i+1)=kQ nx L i++qAt nx L i:=by unfold kQ;rw[bsJ,bqU];simp
def tI(nx:Nat)(L:List Nd)(i:Nat):(qAt nx L i).map (·.1)=pAt nx L i:=by unfold qAt pAt;cases L[i]? with|none=>rfl|some k=>simp only;cases k.kids<;>rfl
def adC(nx:Nat)(L:List Nd):∀i:Nat,(kQ nx L i).map (·.1)=kP nx L i
 |0=>rfl
 |i+1=>by rw[rY,dF,bjC,adC nx L i,tI]
def iG{nx:Nat}{L:List Nd}{i:Nat}{q:(Nat×Nat)×List Nd}:q∈kQ nx L i↔∃a k,a < i/\L[a]?=some k/\k.kids≠[]/\q=((nx,0+a*11+9),k.kids):=by unfold kQ;simp only[List.mem_flatMap,List.mem_range];constructor;rintro⟨a,ha,hq⟩;unfold qAt at hq;split at hq;rename_i k hk;split at hq;cases hq;rename_i x y hy;rw[biQ] at hq;exact⟨a,k,ha,hk,by rw[hy];simp,by rw[hq,hy]⟩;cases hq;rintro⟨a,k,ha,hk,hne,rfl⟩;refine⟨a,ha,?_⟩;unfold qAt;rw[hk];simp only;cases hy:k.kids with|nil=>exact absurd hy hne|cons x y=>simp
def aJF(nx:Nat)(L:List Nd):∀i:Nat,mu (kQ nx L i)<=cL (L.take i)
 |0=>by simp[kQ,mu]
 |i+1=>by
  rw[rY,sO];have ih:=aJF nx L i;by_cases hi:i < L.length;rw[<- bpT hi,aoY]
  have:mu (qAt nx L i)<=cL [L[i]]:=by unfold qAt;rw[aBD hi];simp only[cL,bjU];rw[apC];cases hk:L[i].kids with|nil=>simp[mu]|cons x y=>simp[mu]
  omega;have:qAt nx L i=[]:=by unfold qAt;rw[List.getElem?_eq_none (by omega)]
  rw[this,blS (by omega)];rw[blS (by omega)] at ih;simp[mu] at ih ⊢;exact ih
def xL(nx:Nat)(L:List Nd):∀i:Nat,((kQ nx L i).map (·.1)).Nodup
 |0=>by simp[kQ]
 |i+1=>by
  rw[rY,bjC];refine bnU.2 ⟨xL nx L i,?_,?_⟩;rw[tI];have:=auX nx L i;cases h:pAt nx L i with|nil=>simp|cons a l=>rw[h] at this;simp at this;subst this;simp
  intro x hx y hy hxy;subst hxy;obtain⟨q,hq,rfl⟩:=bkR.1 hx;obtain⟨a,k,ha,_,_,rfl⟩:=iG.1 hq;rw[tI] at hy;unfold pAt at hy;split at hy;split at hy;cases hy;rw[biQ] at hy;injection hy with _ h2
  omega;cases hy
def abX{L:List Nd}{a:Nat}{p:Nd×Option Nat}(h:(((L.map zN).map λn=>((n,none):Nd×Option Nat)))[a]?=some p):∃k,L[a]?=some k/\p=(zN k,none):=by rw[biH,biH] at h;cases hk:L[a]? with|none=>rw[hk] at h;cases h|some k=>rw[hk] at h;cases h;exact⟨k,rfl,rfl⟩
def aAQ{l:Bx}{a:Nat}{m:Nd}{c d:Option Nat}(h:l[a]?=some (m,c)):(l.set a (m,d)).map (·.1)=l.map (·.1):=by rw[btK];exact aaF (by rw[biH,h];rfl)
def iT{α:Type}{l:List α}{x y:α}(h:x∈l++[y])(hne:x≠y):x∈l:=by
 rcases biI.1 h with h | h
 exact h;exact absurd (biQ.1 h) hne
section
variable {n0:Nd}{rk:Option Nat}{M:List Bx}{qs:List ((Nat×Nat)×List Nd)}{q:(Nat×Nat)×List Nd}
def Inv.low(h:Inv n0 rk M qs):∀q∈qs,q.1.1 < 3+M.length:=λq hq=>by
 rcases h.aDD q hq with ⟨e,_⟩ | ⟨i,a,l,m,e,hi,_⟩
 rw[e];show 2 < _;omega;rw[e];have:=(aBC.1 hi).1;show 3+i < _;omega
def aBT(h:((qs++[q]).map (·.1)).Nodup):∀q2∈qs,q2.1≠q.1:=λq2 h2 e=>by
 rw[bjC] at h;exact(bnU.1 h).2.2 _ (boO h2) _ (by simp) e
def asG(h:Inv n0 rk M (qs++[q])):∃(rk2:Option Nat)(M2:List Bx),Inv n0 rk2 M2 (qs++kQ (3+M.length) q.2 q.2.length)/\M2.length=M.length+1/\q.1.1 < 3+M.length/\q.2.length≠0 /\
 ∃cs,AI.look q.1.1 (HH rk n0 M)=some (.cells cs)/\cs[q.1.2]?=some (.sl .lost q.2.length (Br q.2))/\HH rk2 n0 M2=(3+M.length,.cells (Br (q.2.map zN)))::T9 q.1.1 (.cells (cs.set q.1.2 (.Im (3+M.length) 0 q.2.length))) (HH rk n0 M):=by
 have aXE:=h.low q (by simp);have hne:=aBT h.aVG
 have hsm:∀q2∈qs++kQ (3+M.length) q.2 q.2.length,∀x∈q2.2,U9 x:=λq2 h2 x hx=>by
  rcases biI.1 h2 with h2 | h2
  exact h.small q2 (by simp[h2]) x hx;obtain⟨a,k,ha,hk,_,rfl⟩:=iG.1 h2;exact((M0 k).1 (h.small q (by simp) k (aWR hk))).2 x hx
 have aIV:((qs++kQ (3+M.length) q.2 q.2.length).map (·.1)).Nodup:=by rw[bjC];refine bnU.2 ⟨?_,xL _ _ _,λx hx y hy e=>?_⟩;have:=h.aVG;rw[bjC] at this;exact(bnU.1 this).1;subst e;obtain⟨q2,h2,rfl⟩:=bkR.1 hx;obtain⟨q3,h3,e3⟩:=bkR.1 hy;obtain⟨a,k,_,_,_,rfl⟩:=iG.1 h3;have:=h.low q2 (by simp[h2]);rw[<- e3] at this;simp at this
 have ahE:∀(M3:List Bx),M3[M.length]?=some ((q.2.map zN).map λn=>(n,none))->∀q2∈kQ (3+M.length) q.2 q.2.length,∃(i a:Nat)(l:Bx)(m:Nd),q2.1=(3+i,0+a*11+9)/\M3[i]?=some l/\l[a]?=some (m,none)/\q2.2=m.kids/\m.kids≠[]:=λM3 hM q2 h2=>by
  obtain⟨a,k,ha,hk,hkn,rfl⟩:=iG.1 h2;exact⟨M.length,a,_,zN k,rfl,hM,by rw[biH,biH,hk];rfl,rfl,hkn⟩
 have auD:∀(a:Nat)(m:Nd),(((q.2.map zN).map λn=>((n,none):Nd×Option Nat)))[a]?=some (m,none)->m.kids≠[]->(3+M.length,0+a*11+9)∈(qs++kQ (3+M.length) q.2 q.2.length).map (·.1):=λa m hm hk=>by
  obtain⟨k,hk2,e⟩:=abX hm;injection e with e1 _
  subst e1;rw[bjC];refine biI.2 (.inr (bkR.2 ⟨_,iG.2 ⟨a,k,(aBC.1 hk2).1,hk2,hk,rfl⟩,rfl⟩))
 have ahD:∀(a:Nat)(m:Nd)(c:Nat),(((q.2.map zN).map λn=>((n,none):Nd×Option Nat)))[a]?=some (m,some c)->False:=λa m c hm=>by
  obtain⟨k,_,e⟩:=abX hm;injection e with _ e2
  cases e2
 have ahF:∀(a:Nat)(m:Nd)(c:Option Nat),(((q.2.map zN).map λn=>((n,none):Nd×Option Nat)))[a]?=some (m,c)->m.AO=0:=λa m c hm=>by
  obtain⟨k,_,e⟩:=abX hm;injection e with e1 _
  rw[e1];rfl
 rcases h.aDD q (by simp) with ⟨e1,hrk,e2⟩ | ⟨i,a,l,m,e1,hi,ha,e2,hkn⟩
 ·subst hrk
  have Pn:∀{i:Nat}{l:Bx},i≠M.length->(M++[((q.2.map zN).map λn=>((n,none):Nd×Option Nat))])[i]?=some l->M[i]?=some l:=λ{i l} hi hl=>by
   have:=(aBC.1 hl).1;rw[aWQ,bhF] at this;rwa[bhD (by omega)] at hl
  have lW:∀{i:Nat}{l:Bx},M[i]?=some l->(M++[((q.2.map zN).map λn=>((n,none):Nd×Option Nat))])[i]?=some l:=λ{i l} hl=>by
   rw[bhD (aBC.1 hl).1];exact hl
  have Np:(M++[((q.2.map zN).map λn=>((n,none):Nd×Option Nat))])[M.length]?=some ((q.2.map zN).map λn=>(n,none)):=bjT
  have hzero:∀(i a:Nat)(l:Bx)(m:Nd)(c:Option Nat),(M++[((q.2.map zN).map λn=>((n,none):Nd×Option Nat))])[i]?=some l->l[a]?=some (m,c)->m.AO=0:=λi a l m c hi ha=>by
   by_cases wX:i=M.length;subst wX;rw[Np] at hi;cases hi;exact ahF a m c ha;exact h.zero i a l m c (Pn wX hi) ha
  refine⟨some (3+M.length),M++[(q.2.map zN).map λn=>(n,none)],⟨λq2 h2=>?_,aIV,⟨(λh=>nomatch h),λi a l m hi ha hk=>?_⟩,λi a l m c hi ha=>?_,λc hc=>?_,hsm,hzero⟩,by simp,aXE,by rw[e2];simp,[rkC n0 none],?_,?_,?_⟩;rcases biI.1 h2 with h2 | h2
  rcases h.aDD q2 (by simp[h2]) with ⟨e3,_,_⟩ | ⟨i,a,l,m,f1,f2,f3,f4,f5⟩
  exact absurd (e3.trans e1.symm) (hne q2 h2);exact .inr ⟨i,a,l,m,f1,lW f2,f3,f4,f5⟩;exact .inr (ahE _ Np q2 h2);by_cases wX:i=M.length;subst wX;rw[Np] at hi;cases hi;exact auD a m ha hk;have:=h.all.2 i a l m (Pn wX hi) ha hk;rw[bjC] at this ⊢;refine biI.2 (.inl (iT this (by show _≠q.1;rw[e1];intro h;injection h with h _;omega)))
  ·by_cases wX:i=M.length
   subst wX;rw[Np] at hi;cases hi;exact(ahD a m c ha).elim
   ·obtain⟨i2,l2,f1,f2,f3,f4⟩:=h.done i a l m c (Pn wX hi) ha
    exact⟨i2,l2,f1,f2,lW f3,f4⟩
  cases hc;exact⟨M.length,_,rfl,Np,by rw[e2];rfl⟩;rw[e1];exact afI (by decide);rw[e1,e2];rfl;rw[afJ,vS,e1,e2];congr 1;exact(azA (rk:=none) (3+M.length)).symm
 ·have hiL:=(aBC.1 hi).1
  have haL:=(aBC.1 ha).1;have hlen:(M.set i (l.set a (m,some (3+M.length)))).length=M.length:=List.length_set
  have Np:(M.set i (l.set a (m,some (3+M.length)))++[((q.2.map zN).map λn=>((n,none):Nd×Option Nat))])[M.length]?=some ((q.2.map zN).map λn=>(n,none)):=by have:=bjT (l:=M.set i (l.set a (m,some (3+M.length)))) (a:=(q.2.map zN).map λn=>((n,none):Nd×Option Nat));rwa[hlen] at this
  have agM:(M.set i (l.set a (m,some (3+M.length)))++[((q.2.map zN).map λn=>((n,none):Nd×Option Nat))])[i]?=some (l.set a (m,some (3+M.length))):=by rw[bhD (by rw[hlen];exact hiL),biW hiL]
  have Pn:∀{i2:Nat}{l2:Bx},i2≠M.length->i2≠i->(M.set i (l.set a (m,some (3+M.length)))++[((q.2.map zN).map λn=>((n,none):Nd×Option Nat))])[i2]?=some l2->M[i2]?=some l2:=λ{i2 l2} h1 h2 hl=>by
   have:=(aBC.1 hl).1;rw[aWQ,bhF,hlen] at this;rwa[bhD (by rw[hlen];omega),bjB (λe=>h2 e.symm)] at hl
  have lW:∀{i2:Nat}{l2:Bx},M[i2]?=some l2->∃l3,(M.set i (l.set a (m,some (3+M.length)))++[((q.2.map zN).map λn=>((n,none):Nd×Option Nat))])[i2]?=some l3/\l3.map (·.1)=l2.map (·.1)/\∀b p,(i2,b)≠(i,a)->l2[b]?=some p->l3[b]?=some p:=λ{i2 l2} hl=>by
   have hl2:=(aBC.1 hl).1;by_cases h2:i2=i;subst h2;rw[hi] at hl;cases hl;exact⟨_,agM,aAQ ha,λb p hb hp=>by rw[bjB (λe=>hb (by rw[e]))];exact hp⟩;exact⟨l2,by rw[bhD (by rw[hlen];exact hl2),bjB (λe=>h2 e.symm)];exact hl,rfl,λb p _ hp=>hp⟩
  have hzero:∀(i2 a2:Nat)(l2:Bx)(m2:Nd)(c:Option Nat),(M.set i (l.set a (m,some (3+M.length)))++[((q.2.map zN).map λn=>((n,none):Nd×Option Nat))])[i2]?=some l2->l2[a2]?=some (m2,c)->m2.AO=0:=λi2 a2 l2 m2 c WQ nP=>by
   by_cases wX:i2=M.length;subst wX;rw[Np] at WQ;cases WQ;exact ahF a2 m2 c nP;by_cases h2:i2=i;subst h2;rw[agM] at WQ;cases WQ;by_cases h3:a2=a;subst h3;rw[biW haL] at nP;cases nP;exact h.zero i2 a2 l _ none hi ha;rw[bjB (λe=>h3 e.symm)] at nP;exact h.zero i2 a2 l m2 c hi nP;exact h.zero i2 a2 l2 m2 c (Pn wX h2 WQ) nP
  refine⟨rk,M.set i (l.set a (m,some (3+M.length)))++[(q.2.map zN).map λn=>(n,none)],⟨λq2 h2=>?_,aIV,⟨λhr=>?_,λi2 a2 l2 m2 WQ nP hk=>?_⟩,λi2 a2 l2 m2 c WQ nP=>?_,λc hc=>?_,hsm,hzero⟩,by simp,aXE,by rw[e2];exact λh=>hkn (biJ h),bxC l,?_,?_,?_⟩;rcases biI.1 h2 with h2 | h2
  rcases h.aDD q2 (by simp[h2]) with h3 | ⟨i2,a2,l2,m2,f1,f2,f3,f4,f5⟩
  exact .inl h3;obtain⟨l3,g1,_,g3⟩:=lW f2;exact .inr ⟨i2,a2,l3,m2,f1,g1,g3 a2 _ (λe=>hne q2 h2 (by injection e with x y;rw[f1,e1,x,y])) f3,f4,f5⟩
  exact .inr (ahE _ Np q2 h2);have:=h.all.1 hr;rw[bjC] at this ⊢;refine biI.2 (.inl (iT this (by show _≠q.1;rw[e1];intro h;injection h with h _;omega)))
  by_cases wX:i2=M.length;subst wX;rw[Np] at WQ;cases WQ;exact auD a2 m2 nP hk
  have key:∀l4,M[i2]?=some l4->l4[a2]?=some (m2,none)->(i2,a2)≠(i,a)->(3+i2,0+a2*11+9)∈(qs++kQ (3+M.length) q.2 q.2.length).map (·.1):=λl4 h4 h5 h6=>by
   have:=h.all.2 i2 a2 l4 m2 h4 h5 hk;rw[bjC] at this ⊢
   refine biI.2 (.inl (iT this (by
    show _≠q.1;rw[e1];intro e;injection e with x y
    exact h6 (by rw[show i2=i by omega,show a2=a by omega]))))
  by_cases h2:i2=i;subst h2;rw[agM] at WQ;cases WQ;by_cases h3:a2=a;subst h3;rw[biW haL] at nP;cases nP;rw[bjB (λe=>h3 e.symm)] at nP;exact key l hi nP (λe=>by injection e with _ e;exact h3 e)
  exact key l2 (Pn wX h2 WQ) nP (λe=>by injection e with e _;exact h2 e)
  ·by_cases wX:i2=M.length
   subst wX;rw[Np] at WQ;cases WQ;exact(ahD a2 m2 c nP).elim
   ·have old:∀l4,M[i2]?=some l4->l4[a2]?=some (m2,some c)->∃(i3:Nat)(l3:Bx),c=3+i3/\i2 < i3/\(M.set i (l.set a (m,some (3+M.length)))++[((q.2.map zN).map λn=>((n,none):Nd×Option Nat))])[i3]?=some l3/\l3.map (·.1)=m2.kids.map zN:=λl4 h4 h5=>by
     obtain⟨i3,l3,f1,f2,f3,f4⟩:=h.done i2 a2 l4 m2 c h4 h5;obtain⟨l5,g1,g2,_⟩:=lW f3;exact⟨i3,l5,f1,f2,g1,g2.trans f4⟩
    by_cases h2:i2=i;subst h2;rw[agM] at WQ;cases WQ;by_cases h3:a2=a;subst h3;rw[biW haL] at nP;cases nP;exact⟨M.length,_,rfl,hiL,Np,by rw[e2,boT];simp[Function.comp_def]⟩;rw[bjB (λe=>h3 e.symm)] at nP;exact old l hi nP;exact old l2 (Pn wX h2 WQ) nP
  obtain⟨i3,l3,f1,f2,f3⟩:=h.root c hc;obtain⟨l5,g1,g2,_⟩:=lW f2;exact⟨i3,l5,f1,g1,g2.trans f3⟩;rw[e1];exact aoA hi;rw[e1,e2];show(rows xZ l)[0+a*11+9]?=_;rw[bhC,dO dJ ha (by decide)];rfl;rw[afJ,vS,hlen,e1];congr 1;rw[<- aLZ (by exact hiL)];congr 2;rw[e2];show rows xZ (l.set a (m,some (3+M.length)))=(rows xZ l).set (0+a*11+9) _;rw[bhC,zX dJ (j:=9) (y:=(m,some (3+M.length))) (v:=.Im (3+M.length) 0 m.kids.length) ha (by decide) rfl]
def agZ{p:Nat×Nat}(L:List Nd)(nx:Nat):mu (qs++kQ nx L L.length) < mu (qs++[(p,L)]):=by
 rw[sO,sO];have:=aJF nx L L.length;rw[List.take_length] at this;have h2:mu [(p,L)]=1+cL L:=by simp[mu]
 omega
end
section
variable {c:Cx}{w:World}{s:AS}{n0:Nd}{rk:Option Nat}{M:List Bx}
def nK(H8:∀g i v,MD c w g i v->MD (c.upto 0 0) w g i v){m:Nd}{k:Option Nat}{X Y:List AV}{vs:List Value}(hz:m.AO=0)
   (hk:∀v,Rp c w (kcC m k) v->Rp (c.upto 0 0) w (.sl .lost (m.kids.map Jr).length (Br (m.kids.map Jr))) v) (hX:∀us,Cw c w X us->Cw (c.upto 0 0) w Y us) (h:Cw c w (xZ (m,k)++X) vs):Cw (c.upto 0 0) w (Dh (Jr m)++Y) vs:=by
 have pl:∀{a:AV}{v:Value},plain a=true->Rp c w a v->Rp (c.upto 0 0) w a v:=λhp hr=>Rp.plain H8 hp hr;rw[Na];cases h with
 |cons h0 h=>cases h with
 |cons h1 h=>cases h with
 |cons h2 h=>cases h with
 |cons h3 h=>cases h with
 |cons h4 h=>cases h with
 |cons h5 h=>cases h with
 |cons h6 h=>cases h with
 |cons h7 h=>cases h with
 |cons h8 h=>cases h with
 |cons h9 h=>cases h with
 |cons h10 h=>
  have h10:Rp c w (.sc (.int .i64 m.AO)) _:=h10;rw[hz] at h10;exact .cons (pl rfl h0) (.cons (pl rfl h1) (.cons (pl rfl h2) (.cons (pl rfl h3) (.cons (pl rfl h4) (.cons (pl rfl h5) (.cons (pl rfl h6) (.cons (pl rfl h7) (.cons (pl (I6.plS m.CW.ps) h8) (.cons (hk _ h9) (.cons (pl rfl h10) (hX _ h)))))))))))
def bcA(hs:St (G mx) c w s)(hb:∀g,some g∈c.Ce->∀i,¬c.bad g i)(hI:Inv n0 rk M [])(Pn:∀i l,M[i]?=some l->s.get (3+i)=some (.cells (bxC l)))(H8:∀g i v,MD c w g i v->MD (c.upto 0 0) w g i v) :
   ∀(d i:Nat)(l:Bx),M.length<=i+d->M[i]?=some l->∀g,c.Ce[3+i]?=some (some g)->A0 (c.upto 0 0) w g 0 (Br (l.map λp=>Jr p.1)):=by
 intro d
 induction d with
 |zero=>intro i l hd hl;have:=(aBC.1 hl).1;omega
 |succ d ih=>
  intro i l hd hl g hg;have hgm:=aWR hg;obtain⟨vs,ext,T,hw,hr⟩:=Vz hs hg (Pn i l hl)
  have key:∀(l2:Bx),(∀p∈l2,∃a:Nat,l[a]?=some p)->∀us,Cw c w (rows xZ l2) us->Cw (c.upto 0 0) w (Br (l2.map λp=>Jr p.1)) us:=by
   intro l2
   induction l2 with
   |nil=>intro _ us h;cases h;exact .nil
   |cons p l2 ih2=>
    intro hm us h;obtain⟨m,k⟩:=p;obtain⟨a,ha⟩:=hm (m,k) (by simp);rw[Fq] at h;rw[bkF,Gq.cons];refine nK H8 (hI.zero i a l m k hl ha) (λv hv=>?_) (λus hu=>ih2 (λp hp=>hm p (by simp[hp])) us hu) h;cases k with
    |none=>
     have hk:m.kids=[]:=by by_cases hk:m.kids=[];exact hk;exact absurd (hI.all.2 i a l m hl ha hk) (by simp)
     have hv:Rp c w (.sl .lost m.kids.length (Br m.kids)) v:=hv;rw[hk] at hv ⊢;exact Rp.plain H8 rfl hv
    |some cc=>
     obtain⟨i2,l3,rfl,WQ,hl3,hf⟩:=hI.done i a l m cc hl ha;have hv:Rp c w (.Im (3+i2) 0 m.kids.length) v:=hv;cases hv with
     |@Im _ _ _ g2 cap hn hid=>
      have h3:=ih i2 l3 (by omega) hl3 g2 hid
      have e:(l3.map λp=>Jr p.1)=m.kids.map Jr:=by have:=congrArg (List.map Jr) hf;rw[boT,boT] at this;rw[show(λp:Nd×Option Nat=>Jr p.1)=Jr∘(·.1) from rfl,this];exact bqV λx _=>awP x
      rw[e] at h3;rw[biE];exact .Lt hn h3 trivial
  refine A0.Tm (key l (λp hp=>by obtain⟨a,ha⟩:=bkN.1 hp;exact⟨a,ha⟩) vs hr) (λj v hj=>?_);rw[bhC];refine⟨hs.NA g hgm,λGz=>?_,cell_of_heap hw (XR hj)⟩;rcases Gz with Gz | ⟨r,n',cap',OI,hr,_⟩ | Gz
  simp[Cx.upto] at Gz;simp[Cx.upto] at hr;exact hb g hgm j Gz
def akZ(hI:Inv n0 rk M [])(Pn:∀i l,M[i]?=some l->s.get (3+i)=some (.cells (bxC l))){i:Nat}{k:Option Nat}(hl:M[i]?=some [(zN n0,k)]):aHQ (G mx) s (.agg (xZ (zN n0,k))) (.agg (Dh (Jr n0))):=by
 intro c w u hs hb hr
 have H8:∀g i v,MD c w g i v->MD (c.upto 0 0) w g i v:=λg i v hv=>⟨hv.1,λGz=>by
  rcases Gz with Gz | ⟨r,n',cap',OI,hr,_⟩ | Gz
  simp[Cx.upto] at Gz;simp[Cx.upto] at hr;exact hv.2.1 (.inr (.inr Gz)),hv.2.2⟩
 cases hr with
 |agg h=>
  have:=nK (X:=[]) (Y:=[]) H8 (m:=zN n0) (k:=k) rfl (λv hv=>?_) (λus hu=>by cases hu;exact .nil) (by rw[bkW];exact h);rw[bkW,awP] at this;exact .agg this
  ·cases k with
   |none=>
    have hk:(zN n0).kids=[]:=by by_cases hk:(zN n0).kids=[];exact hk;exact absurd (hI.all.2 i 0 _ _ hl rfl hk) (by simp)
    have hv:Rp c w (.sl .lost (zN n0).kids.length (Br (zN n0).kids)) v:=hv;rw[hk] at hv ⊢;exact Rp.plain H8 rfl hv
   |some cc=>
    obtain⟨i2,l3,rfl,WQ,hl3,hf⟩:=hI.done i 0 _ _ cc hl rfl;have hv:Rp c w (.Im (3+i2) 0 (zN n0).kids.length) v:=hv;cases hv with
    |@Im _ _ _ g2 cap hn hid=>
     have h3:=bcA hs hb hI Pn H8 M.length i2 l3 (by omega) hl3 g2 hid
     have e:(l3.map λp=>Jr p.1)=(zN n0).kids.map Jr:=by have:=congrArg (List.map Jr) hf;rw[boT,boT] at this;rw[show(λp:Nd×Option Nat=>Jr p.1)=Jr∘(·.1) from rfl,this];exact bqV λx _=>awP x
     rw[e] at h3;rw[biE];exact .Lt hn h3 trivial
end
section
variable {b:Nat}{B:Nat->Nat->Prop}{w0:World}{Q:QE}{n0:Nd}
def aCT{g:Nat}{j:List Value}(hc:cL [n0]<=99999998)(hp:U9 n0)
   (h:∀rk M g cap j,Inv n0 rk M []->Q .normal (FOs g 0 cap j) ⟨HH rk n0 M,3+M.length,[],0⟩ (E3 b B w0 g cap [])):
   WE P (G mx) (E3 b B w0 g 1 [(2,0)]) (sb IL 30) (FOs g 1 1 j) ⟨HH none n0 [],3,[],0⟩ Q:=by
 rw[show sb IL 30=.block 0 (.loop (sb IL 120)) by kernel_rfl];refine .block ?_;refine .loop (λm f s E=>∃rk M qs g cap j,Inv n0 rk M qs/\m=mu qs/\mu qs<=99999999/\f=FOs g (qs.map (·.1)).length cap j/\s=⟨HH rk n0 M,3+M.length,[],0⟩/\E=E3 b B w0 g cap (qs.map (·.1))) ?_ (m:=mu [((2,0),[n0])]) ⟨none,[],[((2,0),[n0])],g,1,j,?_,rfl,by simp[mu];omega,rfl,rfl,rfl⟩;rotate_left;exact⟨λq hq=>.inl (by rw[biQ.1 hq];exact⟨rfl,rfl,rfl⟩),by simp,⟨λ_=>by simp,λi a l m hi=>by simp at hi⟩,λi a l m c hi=>by simp at hi,λc hc=>(nomatch hc),λq hq x hx=>by rw[biQ.1 hq] at hx;rw[biQ.1 hx];exact hp,λi a l m c hi=>by simp at hi⟩;rintro m _ _ _ ⟨rk,M,qs,g,cap,j,hI,rfl,hmu,rfl,rfl,rfl⟩;refine .seqB (x:=sb IL 240) (y:=sb IL 241) (by kernel_rfl) ?_;rcases List.eq_nil_or_concat qs with rfl | ⟨qs,q,rfl⟩
 refine .seqB (x:=sb IL 480) (y:=sb IL 481) (by kernel_rfl) ?_;refine arO false 0 rfl (λf h13 hf=>.inl ⟨rfl,?_⟩);refine .nD false (x:=sb IL 962) (y:=sb IL 963) (q:=.tmp 13) (by kernel_rfl) h13 ?_;rw[if_neg (by decide),show sb IL 963=.exit 0 by kernel_rfl];exact .wk hf (.exit (.inr ⟨(by intro h;cases h),.inr ⟨(by intro h;cases h),h rk M g cap _ hI⟩⟩));rw[List.concat_eq_append] at hI hmu ⊢;have hqm:(qs++[q]).map (·.1)=qs.map (·.1)++[q.1]:=by rw[bjC];rfl
 have hlen:=atY (qs++[q]);rw[aWQ,bhF] at hlen;refine .V7 (x:=sb IL 480) (y:=sb IL 481) (by kernel_rfl) ?_;refine arO true _ (bcD (by rw[hqm,aWQ,bhF];omega)) (λf h13 hf=>⟨rfl,?_⟩);refine .nD true (x:=sb IL 962) (y:=sb IL 963) (q:=.tmp 13) (by kernel_rfl) h13 ?_;rw[if_pos rfl,show sb IL 962=.skip by kernel_rfl];refine .skip (.inl ⟨rfl,.wk hf ?_⟩);rw[show sb IL 241=.block 1 (sb IL 482) by kernel_rfl,hqm];refine .block ?_;obtain⟨rk2,M2,hI2,hM2,hid,hL,cs,dA,UU,hH⟩:=asG hI;have hmq:mu (qs++[q])=mu qs+(1+cL q.2):=by rw[sO];simp[mu]
 have hLc:=aoZ q.2;have hql:=atY qs;refine aZN (by rw[biE];omega) ?_;refine aAB hid dA UU hL (by omega) ?_;refine aPX hid (iO dA) (biW (aBC.1 UU).1) (λx hx=>((M0 x).1 (hI.small q (by simp) x hx)).1) (by rw[biE];omega) (λg' cap' j'=>.inl ⟨rfl,mu (qs++kQ (3+M.length) q.2 q.2.length),agZ q.2 (3+M.length),rk2,M2,qs++kQ (3+M.length) q.2 q.2.length,g',cap',j',hI2,rfl,?_,?_,?_,?_⟩);have:=agZ (qs:=qs) (p:=q.1) q.2 (3+M.length);have:mu (qs++[(q.1,q.2)])<=99999999:=hmu;omega;rw[bjC,adC];rw[hH,hM2];rfl;rw[bjC,adC]
def dN:(P.underlying 29).map OP=some true:=by kernel_rfl
def sN:(P.info? 29).map (·.size)=some 11:=by kernel_rfl
def awT{n:Nd}(hc:cL [n]<=99999998)(hp:U9 n):Pure P (G mx) 24 [.agg (Dh n)] (.agg (Dh (Jr n))):=by
 refine aZQ Hd.mixed Hd.W7 Tryz.func24 b24 (λb B w0 hB=>?_) (Pa (Gq.plG n) rfl) (Gq.plG (Jr n));refine .V7 (x:=sb IL 2) (y:=sb IL 3) (by kernel_rfl) ?_;refine .run Hd.mixed E0.GY [] (e:=.normal) (fr2:=fr 72 [(1,.ptr 0 0),(2,.ptr 1 0)] [13,36,61] [undef,undef,undef]) (s2:=⟨[(1,a1),(0,.cells (Dh n))],2,[],0⟩) (by kernel_rfl) (by intro v h;cases h) ⟨rfl,?_⟩;refine .V7 (x:=sb IL 6) (y:=sb IL 7) (by kernel_rfl) ?_;refine .run Hd.mixed E0.GY [] (e:=.normal) (fr2:=fr 72 [(2,.ptr 1 0),(3,.ptr 2 0)] [13,36,61] [undef,undef,undef]) (s2:=⟨[(2,.cells [.sl .full 1 (Dh n)]),(1,a1),(0,.cells (Dh n))],3,[],0⟩) (by kernel_rfl) (by intro v h;cases h) ⟨rfl,?_⟩;refine .adY (id:=2) (b2:=.cells [rkC n none]) rfl (λcx w o ho=>?_) ?_
 ·have e:Br [n]=Dh n:=by rw[LZ];exact bkW _
  cases ho with
  |FA ext h1=>
   refine .FA ext ?_;cases h1 with
   |cons h1 t=>
    refine .cons ?_ t;show Rp cx w (.sl .lost 1 (Br [n])) _;rw[e];cases h1 with|Lt hn hc _=>exact .Lt hn hc trivial
 show WE P (G mx) _ (sb IL 7) _ ⟨HH none n [],3,[],0⟩ _;refine .V7 (x:=sb IL 14) (y:=sb IL 15) (by kernel_rfl) ?_;have hr:Vi (sb IL 14) 2=true:=by kernel_rfl
 refine .reg hr ?_;show R9 P (G mx) _ _ [0,1] _ _ _;refine .begin hr (by decide) (t:=88) (e:=87) (x:=.tmp 3) (id:=2) (off:=0) (by kernel_rfl) uP (by kernel_rfl) (by kernel_rfl) (λg=>?_);refine .q Hd.mixed E3.GY hr (by decide) (.raw (some ⟨g,0,none⟩) 1 1) (by kernel_rfl) (by kernel_rfl) ?_;refine .nil ⟨rfl,.wk (fr2:=FOs g 1 1 [undef,undef,undef]) (by kernel_rfl) ?_⟩;refine .V7 (x:=sb IL 30) (y:=sb IL 31) (by kernel_rfl) ?_;refine aCT hc hp (λrk M g cap j hI=>⟨rfl,?_⟩);cases rk with
 |none=>exact absurd (hI.all.1 rfl) (by simp)
 |some c=>
  obtain⟨i,l,rfl,hl,hf⟩:=hI.root c rfl
  obtain⟨k,rfl⟩:∃k,l=[(zN n,k)]:=by
   cases l with
   |nil=>cases hf
   |cons p l=>
    cases l with
    |cons _ _=>simp at hf
    |nil=>
     obtain⟨m,k⟩:=p;simp at hf;exact⟨k,by rw[hf]⟩
  have ho:(xZ (zN n,k)).all one=true:=by cases k<;>rfl
  refine .seqB (x:=sb IL 62) (y:=sb IL 63) (by kernel_rfl) ?_;refine .run Hd.mixed E3.GY [adU (x:=AI.look 2 (HH (some (3+i)) n M)) (b:=.cells [.Im (3+i) 0 1]) (off:=0) (v:=.Im (3+i) 0 1) (mX dL sL rfl) (afI (by decide)),ED (aJC (id:=3+i) (n:=1) (i:=0) (by decide)),adU (x:=AI.look (3+i) (HH (some (3+i)) n M)) (off:=0+0*11) (v:=.agg (xZ (zN n,k))) (zQ dJ dN sN (l:=[(zN n,k)]) rfl) (aoA hl),aDE (x:=AI.look 1 (HH (some (3+i)) n M)) (b:=a1) (off:=0) (v:=.agg (xZ (zN n,k))) (stA sN rfl rfl ho) (afI (by decide))] (e:=.normal) (fr2:=FOs g 0 cap j) (s2:=⟨T9 1 (.cells (xZ (zN n,k))) (HH (some (3+i)) n M),3+M.length,[],0⟩) (by kernel_rfl) (by intro v h;cases h) (.inl ⟨rfl,?_⟩);rw[show sb IL 63=.ret by kernel_rfl];have bdC:AI.look 1 (HH (some (3+i)) n M)=some a1:=afI (by decide);refine λcx w a K hE hs hf hd hK=>wp_ret (hK .ret _ _ _ ⟨.inr rfl,E3.fin hB,.agg (xZ (zN n,k)),bbM (a:=.ptr 1 0) (t:=2) (ty:=29) (by kernel_rfl) (by kernel_rfl) ?_,akZ hI (λi2 l2 h2=>?_) hl⟩ cx w a _ hE hs hd ⟨rfl,hf⟩)
  have hg:AS.get ⟨T9 1 (.cells (xZ (zN n,k))) (HH (some (3+i)) n M),3+M.length,[],0⟩ 1=some (.cells (rows xZ [(zN n,k)])):=by show AI.look 1 (T9 1 _ _)=_;rw[iO bdC];rw[show rows xZ [(zN n,k)]=xZ (zN n,k) from bkW _]
  have:=zQ (P:=P) (G:=(G mx)) dJ dN sN (l:=[(zN n,k)]) (i:=0) (x:=(zN n,k)) rfl _ _ hg;simpa using this
  show AI.look (3+i2) (T9 1 _ _)=_;rw[Jy (by omega)];exact aoA h2
end
open Classical in
def Hv(n:Nd):Option Nd:=if cL [n]<=99999998/\U9 n then some (Jr n) else none
def Rh{n:Nd}{yR:Nd}(h:Hv n=some yR):Pure P (G mx) 24 [.agg (Dh n)] (.agg (Dh yR)):=by unfold Hv at h;split at h;rename_i hc;cases h;exact awT hc.1 hc.2;cases h
open Go.ChangeShapes Go.WideShapes Go.ChangeAt Go.RowKit
set_option maxHeartbeats 4000000
def uE{c:Cx}{w:World}{o:AI.Own}{k n cap:Nat}{cs:List AV}{A:Option Addr}(h:Rp c w (.sl o k cs) (.slice A n cap)):n=k:=by cases h<;>rfl
def awJ{c:Cx}{w:World}{o:AI.Own}{k n cap:Nat}{cs:List AV}{a:Addr}(h:Rp c w (.sl o k cs) (.slice (some a) n cap))(hn:n≠0):∃g o2,a=⟨g,o2,none⟩/\A0 c w g o2 cs:=by cases h with|sl0 _=>exact absurd rfl hn|Lt _ hc _=>exact⟨_,_,rfl,hc⟩
def vH{H:Type}{e:TypeId}{d:DataW H}:∀{l:List (DataW H)},d∈l->∀q∈d.weights P e,q∈brZ P e l
 |a::l,hd,q,hq=>by
  rw[brZ];rcases bhJ.1 hd with rfl | hd
  exact biI.2 (.inl hq);exact biI.2 (.inr (vH hd q hq))
def aRL{c:Cx}{w:World}{g o i:Nat}{l:List Nd}{k:Nd}{vs:List Value}(hc:A0 c w g o (Br l))(hk:l[i]?=some k)(hv:w.cells? 0 ((⟨g,o,none⟩:Addr).add (i*11)) 11=some vs):Cw c w (Dh k) vs:=by
 obtain⟨_,hl,WN⟩:=brO hv;refine Cw.auO hl (λj b v hb hvj=>?_);have hj:j < 11:=(aBC.1 hb).1;have hb2:(Br l)[i*11+j]?=some b:=by rw[LZ,dO (f:=Dh) (k:=11) (λ_=>rfl) hk hj];exact hb
 obtain⟨v2,h1,h2⟩:=hc.get hb2;have h3:=WN j hj;rw[bsI,add_lit,h1.2.2,hvj] at h3;cases h3;exact h2
section
variable {H:Type}{enc:TypeId×Value->H}{W:World}
def wtN:∀(n:Nat)(cs:List Value)(x:DataW H×List MemPlace),Td enc W n 29 cs=some x->(∀q∈x.1.weights P 29,q<=reachBytes)->∀y:Nd,Cw (Y7 W) W (Dh y) cs->U9 y:=by
 intro n
 induction n using blY with
 |_ n ih=>
 intro cs x h hw y hr;obtain⟨xs,m,hm,hx,hl,hlen,hf⟩:=bmT Tryz.underlying29 h
 have hW:∀(j:Nat)(t:TypeId)(d:DataW H×List MemPlace),([3,9,9,3,3,3,3,26,27,3]:List TypeId)[j]?=some t->xs[j]?=some d->∀q∈d.1.weights P t,q<=reachBytes:=λj t d ht hd q hq=>by
  refine hw q ?_;rw[hx]
  have:(brY (xs.map (·.1))).weights P 29=brP P [3,9,9,3,3,3,3,26,27,3] (xs.map (·.1)):=by rw[bnG];simp only[P,Tryz.underlying29];rfl
  rw[this];exact bnV ht (by rw[biH,hd];rfl) q hq
 rw[c29] at hl
 match cs,hl with
 |[a0,a1,a2,a3,a4,a5,a6,a7,a8,a9,a10],_=>
  have h7:Td enc W m 26 (bkT (P.cellsOf 26) (bkU 7 [a0,a1,a2,a3,a4,a5,a6,a7,a8,a9,a10]))=xs[7]?:=hf 7 _ rfl;rw[c26] at h7;have h7:Td enc W m 26 [a7,a8]=xs[7]?:=h7;have h8:Td enc W m 27 (bkT (P.cellsOf 27) (bkU 9 [a0,a1,a2,a3,a4,a5,a6,a7,a8,a9,a10]))=xs[8]?:=hf 8 _ rfl;rw[c27] at h8;have h8:Td enc W m 27 [a9]=xs[8]?:=h8
  have r8:Rp (Y7 W) W (.sl .lost y.CW.ps.length (rows Nz y.CW.ps)) a8:=by obtain⟨v,e,hv⟩:=hr.get (i:=8) (a:=.sl .lost y.CW.ps.length (rows Nz y.CW.ps)) rfl;cases e;exact hv
  have r9:Rp (Y7 W) W (.sl .lost y.kids.length (Br y.kids)) a9:=by obtain⟨v,e,hv⟩:=hr.get (i:=9) (a:=.sl .lost y.kids.length (Br y.kids)) rfl;cases e;exact hv
  obtain⟨d7,e7⟩:∃d,xs[7]?=some d:=⟨_,aBD (by rw[hlen];decide)⟩;obtain⟨d8,e8⟩:∃d,xs[8]?=some d:=⟨_,aBD (by rw[hlen];decide)⟩;rw[e7] at h7;rw[e8] at h8;have w7:=hW 7 26 d7 rfl e7;have w8:=hW 8 27 d8 rfl e8;rw[M0];refine⟨?_,λk hk=>?_⟩;obtain⟨xs2,m2,hm2,dD,hl2,hlen2,hf2⟩:=bmT Tryz.underlying26 h7;have g1:Td enc W m2 24 (bkT (P.cellsOf 24) (bkU 1 [a7,a8]))=xs2[1]?:=hf2 1 _ rfl;rw[c24] at g1;have g1:Td enc W m2 24 [a8]=xs2[1]?:=g1;obtain⟨d1,e1⟩:∃d,xs2[1]?=some d:=⟨_,aBD (by rw[hlen2];decide)⟩;rw[e1] at g1
  have w1:∀q∈d1.1.weights P 24,q<=reachBytes:=λq hq=>by
   refine w7 q ?_;rw[dD]
   have:(brY (xs2.map (·.1))).weights P 26=brP P [3,24] (xs2.map (·.1)):=by rw[bnG];simp only[P,Tryz.underlying26];rfl
   rw[this];exact bnV (j:=1) (t:=24) rfl (by rw[biH,e1];rfl) q hq
  rcases bqC Tryz.underlying24 g1 with ⟨UU,_⟩ | ⟨a,len,cap,nI,rest,k,_,UU,hxx,_,_,_,hle,_⟩
  obtain rfl:a8=.slice none 0 0:=by simpa using UU
  rw[<- uE r8];decide;obtain rfl:a8=.slice (some a) len cap:=by simpa using UU
  rw[<- uE r8]
  have h3:(nI.length+rest.length)*24<=reachBytes:=w1 _ (by
   rw[hxx,bnG];simp only[P,Tryz.underlying24];rw[show Tryz.prog.bytesOf 64=24 by kernel_rfl];simp)
  have:=reachBytes_lt;have h4:nI.length*24<=(nI.length+rest.length)*24:=Nat.mul_le_mul_right _ (Nat.le_add_right _ _);rw[hle] at h4;omega;obtain⟨i,hi⟩:=bkN.1 hk;have hil:=(aBC.1 hi).1;rcases bqC Tryz.underlying27 h8 with ⟨UU,_⟩ | ⟨a,len,cap,nI,rest,k2,hk2,UU,hxx,_,_,_,hle,hel,_⟩
  obtain rfl:a9=.slice none 0 0:=by simpa using UU
  have:=uE r9;omega;obtain rfl:a9=.slice (some a) len cap:=by simpa using UU
  have hn:=uE r9;obtain⟨g,o,rfl,hc⟩:=awJ r9 (by omega);have h5:=hel i (by omega);obtain⟨d,ed⟩:∃d,nI[i]?=some d:=⟨_,aBD (by omega)⟩;rw[ed] at h5;obtain⟨vs,v1,v2⟩:=bmJ.1 h5;rw[show Tryz.prog.cellsOf 29=11 from c29] at v1;refine ih k2 (by omega) vs d v2 (λq hq=>w8 q ?_) k (aRL hc hi v1);rw[hxx,bnG];simp only[P,Tryz.underlying27];refine List.mem_cons_of_mem _ (biI.2 (.inl (vH (d:=d.1) (boO (aWR ed)) q hq)))
end
end Mo
end Go.Proofs.YtpbkhogolfegfaaGreatDoor
namespace Go.Proofs.YtpbkhogolfegfaaGreatDoor
open AI Go Go.RowKit LexS
namespace Mo
variable {mx:Int}
def bfZ{cx:Cx}{w:World}{s:AS}(h:St (G mx) cx w s):Ph w:=by
 refine⟨λi hi=>?_,λj v hj=>?_⟩;have hc:=h.Nh 3 Hd.aAC rfl;have he:Hd.aAC[i]?=some (.sc (.int .u8 (O4 i:Nat))):=by simp[Hd.aAC,hi]
 obtain⟨v,hv,hr⟩:=hc.get he;cases hr;have:=hv.2.2;rwa[bhC] at this;have hc:=h.Nh 0 Hd.aEV rfl;have hj':(G4.map λy=>boS ⟨y.toArray⟩)[j]?=some v:=by simpa[Jo] using hj
 rw[biH] at hj';obtain⟨y,hy,rfl⟩:=Option.map_eq_some_iff.1 hj';have he:Hd.aEV[j]?=some (Hp y):=by simp[Hd.aEV,hy]
 obtain⟨u,hu,hr⟩:=hc.get he;unfold Hp at hr;cases hr;have:=hu.2.2;rwa[bhC] at this
def Y6{w w':World}(h:Below w.heap.size w w'):Ut w w' (λ_=>False):=⟨h.os,h.tape,h.output,h.size,λk hk _=>h.block k hk⟩
def akR(w:World)(e:TypeId)(s:ByteArray):Ut w (Lib.bytesWorld w e s) (λ_=>False) :=
 Y6 (Lib.below_freeze ((Below.drew (Below.refl _ w)).alloc (aWP _) _) (p:=⟨w.heap.size,_,Option.none⟩) (aWP _) 1)
def Ju(x:LexS.Tok):Tk:=⟨x.1,⟨x.2.1.toArray⟩,x.2.2⟩
def aFO(l:List LexS.Tok):(rows Mz (l.map Ju)).length=(LR l).length:=by
 unfold LR
 induction l with|nil=>rfl|cons x l ih=>rw[bkF,Fq,bnT,aWQ,aWQ,ih];rfl
def aSK(cx:Cx)(w:World)(l:List LexS.Tok):Cw cx w (rows Mz (l.map Ju)) (LR l):=by
 unfold LR
 induction l with
 |nil=>exact .nil
 |cons x l ih=>
  rw[bkF,Fq,bnT];exact Cw.append (.cons (.sc rfl) (.cons (.sc rfl) (.cons (.sc rfl) .nil))) ih
def Iz(s:ByteArray):Option (List Tk×Int×Int):=some ((Of s.data.toList).1.map Ju,(((Of s.data.toList).2.1:Nat):Int),(((Of s.data.toList).2.2:Nat):Int))
def Yb{s:ByteArray}{yR:List Tk×Int×Int}(h:Iz s=some yR):Pure P (G mx) 34 [.sc (.string s)] (.Gx [.sl .lost yR.1.length (rows Mz yR.1),.sc (.int .i64 yR.2.1),.sc (.int .i64 yR.2.2)]):=by
 cases h;intro s0 cx w vs hs ha;cases ha with
 |cons h1 tl=>
 cases tl;cases h1;refine(aBX s w (bfZ hs)).mono ?_;rintro e w' ⟨u,rfl,RI,hb⟩;obtain⟨x,st⟩:=hs.same (Y6 hb);refine⟨cx,x,st,_,rfl,?_⟩;show Rp cx w' (.Gx [.sl .lost ((Of (L s)).1.map Ju).length (rows Mz ((Of (L s)).1.map Ju)),.sc (.int .i64 (Of (L s)).2.1),.sc (.int .i64 (Of (L s)).2.2)]) _;refine .Gx (vs:=[u,.int .i64 (Of (L s)).2.1,.int .i64 (Of (L s)).2.2]) (.cons ?_ (.cons (.sc rfl) (.cons (.sc rfl) .nil)));have hl:=aFO (Of (L s)).1;have hc:=aSK cx w' (Of (L s)).1;rw[biE];obtain⟨h1,⟨rfl,h2⟩ | ⟨g,cap,cur,rfl,hg,hw,hn,_,hsz,htk⟩⟩:=RI;have:(Of (L s)).1=[]:=biJ h2;rw[this];exact .sl0 trivial;refine .Lt hn (A0.Tm hc (λi v hi=>⟨(Array.getElem?_eq_some_iff.1 hw).1,λGz=>?_,?_⟩)) trivial;have:g < w.heap.size:=hs.Xn Gz;omega;rw[bhC,cell_of_row w' g i cur _ _ hw];rw[<- htk,List.getElem?_take] at hi;split at hi;rwa[biO] at hi;cases hi
def OK(s:ByteArray):Option (Int×Unit):=if s.data.toList.length<=18 then (Lib.atoi s.data.toList).map λn=>(n,()) else none
def afQ{s:ByteArray}{yR:Int×Unit}(h:OK s=some yR):Pure P (G mx) 173 [.sc (.string s)] (.Gx [.sc (.int .i64 yR.1),.sc .nilIface]):=by
 unfold OK at h;split at h
 ·rename_i hl
  cases hn:Lib.atoi s.data.toList with
  |none=>rw[hn] at h;cases h
  |some n=>
   rw[hn] at h;cases h;intro s0 cx w vs hs ha;cases ha with
   |cons h1 tl=>
   cases tl;cases h1;refine(Tryz.strconv_Atoi s n (by show s.data.size<=18;rw[<- Array.length_toList];exact hl) hn w).mono ?_;rintro e w' ⟨rfl,tt,rfl⟩;obtain⟨x,st⟩:=hs.same (akR w _ tt);exact⟨cx,x,st,_,rfl,.Gx (vs:=[.int .i64 n,.nilIface]) (.cons (.sc rfl) (.cons (.sc rfl) .nil))⟩
 cases h
def Me(t o n:ByteArray)(k:Int):Option ByteArray:=if 1<=o.size/\t.size+Lib.countB t o*n.size<=4000 then some ⟨(Lib.replace t.data.toList o.data.toList n.data.toList k).toArray⟩ else none
def tT{t o n:ByteArray}{k:Int}{yR:ByteArray}(h:Me t o n k=some yR):Pure P (G mx) 163 [.sc (.string t),.sc (.string o),.sc (.string n),.sc (.int .i64 k)] (.sc (.string yR)):=by
 unfold Me at h;split at h
 ·rename_i hl
  cases h;intro s0 cx w vs hs ha;cases ha with
  |cons a1 tl=>
  cases tl with
  |cons a2 tl=>
  cases tl with
  |cons a3 tl=>
  cases tl with
  |cons a4 tl=>
  cases tl;cases a1;cases a2;cases a3;cases a4
  have hm:w.cell? ⟨5,0,none⟩=some (.int .i64 mx):=by have hg:=hs.Nh 5 [Hd.int mx] rfl;obtain⟨v,hv,hr⟩:=hg.get (i:=0) rfl;unfold Hd.int at hr;cases hr;exact hv.2.2
  refine(Tryz.strings_Replace t o n k mx w (by omega) hm hl.1 (by omega)).mono ?_;rintro e w' ⟨rfl,hb⟩;obtain⟨x,st⟩:=hs.same (Y6 hb);exact⟨cx,x,st,_,rfl,.sc rfl⟩
 cases h
def axV:Nd⊕Dg->Nd×Dg×Bool
 |.inl n=>(n,⟨0,0⟩,true)
 |.inr d=>(⟨0,gT,gT,0,0,0,0,⟨0,[]⟩,[],0⟩,d,false)
end Mo
end Go.Proofs.YtpbkhogolfegfaaGreatDoor
