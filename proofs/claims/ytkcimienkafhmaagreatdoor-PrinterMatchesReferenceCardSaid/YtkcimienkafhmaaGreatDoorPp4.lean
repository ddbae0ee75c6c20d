/- Part of a proof: see the last text. -/
import Derived.Test.YtkcimienkafhmaaGreatDoorPp3
import Derived.Test.YtkcimienkafhmaaGreatDoorRows
import Derived.ProofKit
import Derived.OpenShut
import Derived.Deep.DeepHandedRow
import Derived.Deep.Slices
import Derived.Test.YtkcimienkafhmaaGreatDoorCards
import Derived.Lib.LaidTab
import Derived.Lib.LaidIn
import Derived.Shelf.Vars
import Derived.LaidByTextLater
import Derived.SevenTiedAt
import Derived.LaidSub
import Derived.LaidOnce
set_option linter.all false
noncomputable section
set_option maxRecDepth 100000
open Array renaming getElem?_toList->bbE
open ByteArray renaming empty->VE
open Go.DataW renaming lit->blT,trod->bjX,trod_int->bdC,trod_string->bhX,trod_struct->bhW
open Go.DataW.lit renaming injEq->bgC
open Go.Lit.int renaming injEq->biB
open Go.World renaming holding->blP
open List renaming drop->beB,eq_nil_of_length_eq_zero->bbD,flatMap_cons->bdP,getElem?_eq_getElem->atS,getElem?_eq_some_iff->aHS,getElem?_map->bbS,length_append->cZ,length_cons->amN,map_cons->bcH,mem_cons->bbG,range->bcB,take->beE
open Nat renaming le_refl->aHT,succ_mul->biQ,zero_add->aUU,zero_mul->biM
open Option.some renaming inj->bbJ,injEq->aUQ
open Prod.mk renaming injEq->bbI
namespace Go.Proofs.YtkcimienkafhmaaGreatDoor
open AI Go
namespace Mo
open Go.ChangeShapes Go.WideShapes Go.ChangeAt Go.RowKit
set_option maxHeartbeats 4000000
def anW{z:Int}(h:(Lit.int .i64 z).wf=true):-9223372036854775808<=z/\z<=9223372036854775807:=by simp only[Lit.wf,Bool.and_eq_true,decide_eq_true_eq] at h;exact h
def c3:P.cellsOf 3=1:=by kernel_rfl
def c9:P.cellsOf 9=1:=by kernel_rfl
def c22:P.cellsOf 22=1:=by kernel_rfl
def c24:P.cellsOf 24=2:=by kernel_rfl
def c25:P.cellsOf 25=1:=by kernel_rfl
def c27:P.cellsOf 27=11:=by kernel_rfl
def aOK:P.cellsOf 104=3:=by kernel_rfl
def Zz(W:World):Cx:=⟨W.heap.size,[],[],λ_ _=>False⟩
def aMI{W:World}{g i:Nat}{v:Value}(h:W.cell? ⟨g,i,none⟩=some v):RI (Zz W) W g i v:=by
 refine⟨World.block_lt_of_cell? W _ h,λhs=>?_,h⟩;rcases hs with hs | ⟨r,n,cap,sz,hr,_⟩ | hs
 cases hs;simp[Zz] at hr;exact hs
def stW(W:World):St (λ_=>none) (Zz W) W s0 :=
 ⟨rfl,trivial,(λi j g h1=>by simp[Zz] at h1),(λg hg=>by cases hg),(λid g b h1=>by simp[Zz] at h1),rfl,(λr g n cap sz hr=>by simp[Zz] at hr),(λr n hr=>by cases hr),(λg hg=>by cases hg),(λg i hb=>hb.elim),(λr r' g n cap sz n' cap' OI hr=>by simp[Zz] at hr),(λg cs hg=>by cases hg),aHT _,(λg cs hg=>by cases hg)⟩
def ahU{w:World}{a:Addr}{v:Value}(h:w.cell? a=some v):a=⟨a.block,a.off,none⟩:=by
 obtain⟨b,o,s⟩:=a;cases s with
 |none=>rfl
 |some x=>
  exfalso;unfold World.cell? at h;split at h<;>simp at h
section
variable {H:Type}{enc:TypeId×Value->H}{W:World}
abbrev Td(enc:TypeId×Value->H)(W:World)(n:Nat)(t:TypeId)(cs:List Value):Option (DataW H×List MemPlace):=bjX enc P W 0 (λ_=>true) true n t cs
def mS{c:Cx}{w:World}{g o:Nat}{xs ys:List AV}(h:A7 c w g o xs)(k:A7 c w g (o+xs.length) ys):A7 c w g o (xs++ys):=by
 induction xs generalizing o with
 |nil=>exact k
 |cons a xs ih=>
  cases h with|cons hv h1 t=>exact .cons hv h1 (ih t (by rw[amN] at k;rwa[show o+1+xs.length=o+(xs.length+1) by omega]))
def kY{α:Type}(f:α->List AV)(c:Nat)(hc:0 < c)(hf:∀a,(f a).length=c)(ok:α->Prop){ts te:TypeId}(hu:P.underlying ts=some (.slice te))(hce:P.cellsOf te=c){fuel:Nat}{v:Value}{x:DataW H×List MemPlace}
   (aPV:∀n cs x,n < fuel->Td enc W n te cs=some x->∃y:α,ok y/\CF (Zz W) W (f y) cs)
   (h:Td enc W fuel ts [v]=some x):∃l:List α,Rp (Zz W) W (.sl .lost l.length (rows f l)) v/\(∀x∈l,ok x)/\l.length<=9223372036854775807:=by
 rcases DataW.trod_slice hu h with ⟨hcs,_⟩ | ⟨a,len,cap,aZR,rest,n,hn,hcs,_,_,hl,hm,hlen,hel,_,_⟩
 obtain rfl:v=.slice none 0 0:=by simpa using hcs
 exact⟨[],.sl0 trivial,by simp,by simp⟩
 ·obtain rfl:v=.slice (some a) len cap:=by simpa using hcs
  have aZS:len<=9223372036854775807:=by unfold maxLen at hm;omega
  have hex:∀i,i < len->∃y:α,ok y/\∃cs,CF (Zz W) W (f y) cs/\cs.length=c/\∀j,j < c->W.cell? (a.add (i*c+j))=cs[j]?:=by intro i hi;have RM:=hel i hi;rw[atS (by omega)] at RM;obtain⟨cs',h1,h2⟩:=Option.bind_eq_some_iff.1 RM;obtain⟨y,hy,hr⟩:=aPV n cs' _ (by omega) h2;rw[hce] at h1;obtain⟨_,Ib,Y5⟩:=World.cells?_some h1;refine⟨y,hy,cs',hr,Ib,λj hj=>?_⟩;rw[<- Go.Deep.add_add];exact Y5 j hj
  by_cases h0:len=0;subst h0;exact⟨[],.sl0 trivial,by simp,by simp⟩
  ·have ha:a=⟨a.block,a.off,none⟩:=by
    obtain⟨y,_,cs,_,Ib,Y5⟩:=hex 0 (by omega);have h1:=Y5 0 hc;rw[atS (by omega)] at h1;have h2:a.add (0*c+0)=a:=by simp[Addr.add]
    rw[h2] at h1;exact ahU h1
   have hadd:∀k,a.add k=⟨a.block,a.off+k,none⟩:=by intro k;rw[ha];unfold Addr.add;split;rename_i hk;subst hk;rfl;rfl
   have key:∀d k,k+d=len->∃l:List α,l.length=d/\(∀x∈l,ok x)/\A7 (Zz W) W a.block (a.off+k*c) (rows f l):=by
    intro d
    induction d with
    |zero=>intro k _;exact⟨[],rfl,by simp,.nil⟩
    |succ d ih=>
     intro k hk;obtain⟨y,hy,cs,hr,Ib,Y5⟩:=hex k (by omega);obtain⟨l,h1,h2,h3⟩:=ih (k+1) (by omega);refine⟨y::l,by simp[h1],λx hx=>?_,?_⟩;rcases bbG.1 hx with rfl | hx
     exact hy;exact h2 x hx;rw[Hc];refine mS (A7.R8 hr λj v hv=>?_) ?_;have hj:j < c:=by have:=(aHS.1 hv).1;omega
     have:=Y5 j hj;rw[hadd,hv] at this;rw[show a.off+k*c+j=a.off+(k*c+j) by omega];exact aMI this;rw[hf y,show a.off+k*c+c=a.off+(k+1)*c by rw[Nat.add_mul];omega];exact h3
   obtain⟨l,h1,h2,h3⟩:=key len 0 (by omega);rw[biM,Nat.add_zero] at h3;refine⟨l,?_,h2,by omega⟩;rw[ha,h1];exact .MT hl h3 trivial
def aYD:∀(n:Nat)(cs:List Value)(x:DataW H×List MemPlace),Td enc W n 104 cs=some x->∃y:Pc,aKN y/\CF (Zz W) W (Uv y) cs:=by
 intro n cs x h;obtain⟨xs,m,hm,_,hl,hlen,hf⟩:=bhW Tryz.underlying104 h;rw[aOK] at hl
 match cs,hl with
 |[a0,a1,a2],_=>
  have h0:Td enc W m 3 (beE (P.cellsOf 3) (beB 0 [a0,a1,a2]))=xs[0]?:=hf 0 _ rfl;rw[c3,atS (by rw[hlen];decide)] at h0;have h0:Td enc W m 3 [a0]=some _:=h0;have h1:Td enc W m 3 (beE (P.cellsOf 3) (beB 1 [a0,a1,a2]))=xs[1]?:=hf 1 _ rfl;rw[c3,atS (by rw[hlen];decide)] at h1;have h1:Td enc W m 3 [a1]=some _:=h1;have h2:Td enc W m 3 (beE (P.cellsOf 3) (beB 2 [a0,a1,a2]))=xs[2]?:=hf 2 _ rfl;rw[c3,atS (by rw[hlen];decide)] at h2;have h2:Td enc W m 3 [a2]=some _:=h2;obtain⟨z0,q0,_,w0⟩:=bdC Tryz.underlying3 h0;obtain rfl:a0=.int .i64 z0:=by simpa using q0
  obtain⟨z1,q1,_,w1⟩:=bdC Tryz.underlying3 h1;obtain rfl:a1=.int .i64 z1:=by simpa using q1
  obtain⟨z2,q2,_,w2⟩:=bdC Tryz.underlying3 h2;obtain rfl:a2=.int .i64 z2:=by simpa using q2
  exact⟨⟨z0,z1,z2⟩,⟨(anW w0),(anW w1),(anW w2)⟩,(.cons (.sc rfl) (.cons (.sc rfl) (.cons (.sc rfl) .nil)))⟩
def o24:∀(n:Nat)(cs:List Value)(x:DataW H×List MemPlace),Td enc W n 24 cs=some x->∃y:Fn,sT y/\CF (Zz W) W (fnC y) cs:=by
 intro n cs x h;obtain⟨xs,m,hm,_,hl,hlen,hf⟩:=bhW Tryz.underlying24 h;rw[c24] at hl
 match cs,hl with
 |[a0,a1],_=>
  have h0:Td enc W m 3 (beE (P.cellsOf 3) (beB 0 [a0,a1]))=xs[0]?:=hf 0 _ rfl;rw[c3,atS (by rw[hlen];decide)] at h0;have h0:Td enc W m 3 [a0]=some _:=h0;have h1:Td enc W m 22 (beE (P.cellsOf 22) (beB 1 [a0,a1]))=xs[1]?:=hf 1 _ rfl;rw[c22,atS (by rw[hlen];decide)] at h1;have h1:Td enc W m 22 [a1]=some _:=h1;obtain⟨z0,q0,_,w0⟩:=bdC Tryz.underlying3 h0;obtain rfl:a0=.int .i64 z0:=by simpa using q0
  obtain⟨l1,r1,k1,b1⟩:=kY Uv 3 (by decide) (λ_=>rfl) aKN Tryz.underlying22 aOK (λk cs x hk ht=>aYD k cs x ht) h1;exact⟨⟨z0,l1⟩,⟨b1,k1⟩,(.cons (.sc rfl) (.cons r1 .nil))⟩
def o27:∀(n:Nat)(cs:List Value)(x:DataW H×List MemPlace),Td enc W n 27 cs=some x->∃y:Nd,F6 y/\CF (Zz W) W (Cf y) cs:=by
 intro n
 induction n using Nat.strongRecOn with
 |_ n ih=>
 intro cs x h;obtain⟨xs,m,hm,_,hl,hlen,hf⟩:=bhW Tryz.underlying27 h;rw[c27] at hl
 match cs,hl with
 |[a0,a1,a2,a3,a4,a5,a6,a7,a8,a9,a10],_=>
  have h0:Td enc W m 3 (beE (P.cellsOf 3) (beB 0 [a0,a1,a2,a3,a4,a5,a6,a7,a8,a9,a10]))=xs[0]?:=hf 0 _ rfl;rw[c3,atS (by rw[hlen];decide)] at h0;have h0:Td enc W m 3 [a0]=some _:=h0;have h1:Td enc W m 9 (beE (P.cellsOf 9) (beB 1 [a0,a1,a2,a3,a4,a5,a6,a7,a8,a9,a10]))=xs[1]?:=hf 1 _ rfl;rw[c9,atS (by rw[hlen];decide)] at h1;have h1:Td enc W m 9 [a1]=some _:=h1;have h2:Td enc W m 9 (beE (P.cellsOf 9) (beB 2 [a0,a1,a2,a3,a4,a5,a6,a7,a8,a9,a10]))=xs[2]?:=hf 2 _ rfl;rw[c9,atS (by rw[hlen];decide)] at h2;have h2:Td enc W m 9 [a2]=some _:=h2;have h3:Td enc W m 3 (beE (P.cellsOf 3) (beB 3 [a0,a1,a2,a3,a4,a5,a6,a7,a8,a9,a10]))=xs[3]?:=hf 3 _ rfl;rw[c3,atS (by rw[hlen];decide)] at h3;have h3:Td enc W m 3 [a3]=some _:=h3;have h4:Td enc W m 3 (beE (P.cellsOf 3) (beB 4 [a0,a1,a2,a3,a4,a5,a6,a7,a8,a9,a10]))=xs[4]?:=hf 4 _ rfl;rw[c3,atS (by rw[hlen];decide)] at h4;have h4:Td enc W m 3 [a4]=some _:=h4;have h5:Td enc W m 3 (beE (P.cellsOf 3) (beB 5 [a0,a1,a2,a3,a4,a5,a6,a7,a8,a9,a10]))=xs[5]?:=hf 5 _ rfl;rw[c3,atS (by rw[hlen];decide)] at h5;have h5:Td enc W m 3 [a5]=some _:=h5;have h6:Td enc W m 3 (beE (P.cellsOf 3) (beB 6 [a0,a1,a2,a3,a4,a5,a6,a7,a8,a9,a10]))=xs[6]?:=hf 6 _ rfl;rw[c3,atS (by rw[hlen];decide)] at h6;have h6:Td enc W m 3 [a6]=some _:=h6;have h7:Td enc W m 24 (beE (P.cellsOf 24) (beB 7 [a0,a1,a2,a3,a4,a5,a6,a7,a8,a9,a10]))=xs[7]?:=hf 7 _ rfl;rw[c24,atS (by rw[hlen];decide)] at h7;have h7:Td enc W m 24 [a7,a8]=some _:=h7;have h8:Td enc W m 25 (beE (P.cellsOf 25) (beB 9 [a0,a1,a2,a3,a4,a5,a6,a7,a8,a9,a10]))=xs[8]?:=hf 8 _ rfl;rw[c25,atS (by rw[hlen];decide)] at h8;have h8:Td enc W m 25 [a9]=some _:=h8;have h9:Td enc W m 3 (beE (P.cellsOf 3) (beB 10 [a0,a1,a2,a3,a4,a5,a6,a7,a8,a9,a10]))=xs[9]?:=hf 9 _ rfl;rw[c3,atS (by rw[hlen];decide)] at h9;have h9:Td enc W m 3 [a10]=some _:=h9;obtain⟨z0,q0,_,w0⟩:=bdC Tryz.underlying3 h0;obtain rfl:a0=.int .i64 z0:=by simpa using q0
  obtain⟨z1,q1,_⟩:=bhX Tryz.underlying9 h1;obtain rfl:a1=.string z1:=by simpa using q1
  obtain⟨z2,q2,_⟩:=bhX Tryz.underlying9 h2;obtain rfl:a2=.string z2:=by simpa using q2
  obtain⟨z3,q3,_,w3⟩:=bdC Tryz.underlying3 h3;obtain rfl:a3=.int .i64 z3:=by simpa using q3
  obtain⟨z4,q4,_,w4⟩:=bdC Tryz.underlying3 h4;obtain rfl:a4=.int .i64 z4:=by simpa using q4
  obtain⟨z5,q5,_,w5⟩:=bdC Tryz.underlying3 h5;obtain rfl:a5=.int .i64 z5:=by simpa using q5
  obtain⟨z6,q6,_,w6⟩:=bdC Tryz.underlying3 h6;obtain rfl:a6=.int .i64 z6:=by simpa using q6
  obtain⟨y7,k7,r7⟩:=o24 m _ _ h7;obtain⟨l8,r8,k8,b8⟩:=kY Cf 11 (by decide) (λ_=>rfl) F6 Tryz.underlying25 c27 (λk cs x hk ht=>ih k (by omega) cs x ht) h8;rw[<- oD] at r8;obtain⟨z9,q9,_,w9⟩:=bdC Tryz.underlying3 h9;obtain rfl:a10=.int .i64 z9:=by simpa using q9
  exact⟨⟨z0,z1,z2,z3,z4,z5,z6,y7,l8,z9⟩,by rw[F6];exact⟨k7,b8,(kX.2 k8)⟩,(.cons (.sc rfl) (.cons (.sc rfl) (.cons (.sc rfl) (.cons (.sc rfl) (.cons (.sc rfl) (.cons (.sc rfl) (.cons (.sc rfl) (CF.append r7 (.cons r8 (.cons (.sc rfl) .nil))))))))))⟩
end
def ajP{c:Cx}{W:World}{v:Value}{cs:List AV}(hc:cs.length≠1)(h:CF c W cs v.cells.toList):Rp c W (.agg cs) v:=by have hl:=h.len;cases v with|agg ws=>exact .agg (by simpa[Value.cells] using h)|_=>simp[Value.cells] at hl;omega
end Mo
def own:ownKnob Tryz.prog.godebug=none:=by kernel_rfl
def laidOut:laidOutB Tryz.prog=true:=by kernel_rfl
end Go.Proofs.YtkcimienkafhmaaGreatDoor
namespace Go.Proofs.YtkcimienkafhmaaGreatDoor
open AI Go Go.RowKit LexS
def chunks{α:Type}{V:α->List Value}{k:Nat}:∀{l:List α}{cs:List Value},cs.length=l.length*k->(∀y∈l,(V y).length=k)->(∀(i:Nat) y,l[i]?=some y->(cs.drop (i*k)).take k=V y)->cs=l.flatMap V
 |[],cs,h,_,_=>by
  simp only[List.length_nil,biM] at h;rw[bbD h];rfl
 |a::l,cs,h,hV,hc=>by
  have h0:=hc 0 a rfl;rw[biM,List.drop_zero] at h0
  have ih:=chunks (V:=V) (k:=k) (l:=l) (cs:=cs.drop k) (by rw[List.length_drop,h,amN,biQ];omega) (λy hy=>hV y (List.mem_cons_of_mem _ hy)) λi y hy=>by
   rw[List.drop_drop];have:=hc (i+1) y (by simpa using hy)
   rwa[biQ,Nat.add_comm] at this
  rw[bdP,<- h0,<- ih,List.take_append_drop]
def J4{α H:Type}{enc:TypeId×Value->H}{P:Program}{w:World}{base:Nat}{sp:Nat->Bool}{held:Bool}{fuel:Nat}{t e:TypeId}{n k:Nat}{cs:List Value}{l:List α}{p:List MemPlace}(D:α->DataW H)(V:α->List Value)(hV:∀y∈l,(V y).length=k)
   (OW:∀f c y q,bjX enc P w base sp held f e c=some (D y,q)->c=V y)
   (ht:P.underlying t=some (.array n e)) (hce:P.cellsOf e=k) (hct:P.cellsOf t=n*k) (h:bjX enc P w base sp held fuel t cs=some (.agg (l.map D),p)):cs=l.flatMap V:=by
 obtain⟨xs,m,_,hx,hl,hxl,Y5⟩:=DataW.trod_array ht h
 have hd:l.map D=xs.map (·.1):=by have:=congrArg Prod.fst hx;simpa using this
 have hll:l.length=n:=by have:=congrArg List.length hd;simp at this;omega
 rw[hct] at hl;rw[hce] at Y5;refine chunks (by rw[hl,hll]) hV λi y hy=>?_;have hi:i < n:=by have:=(aHS.1 hy).1;omega
 have h2:=Y5 i hi;have hxi:xs[i]?=some xs[i]:=atS (by omega);rw[hxi] at h2;have h3:(l.map D)[i]?=(xs.map (·.1))[i]?:=by rw[hd]
 rw[bbS,bbS,hy,hxi] at h3;simp only[Option.map_some,aUQ] at h3;refine OW m _ y xs[i].2 ?_;rw[h2,h3]
def eX{H:Type}{enc:TypeId×Value->H}{w:World}{base:Nat}{sp:Nat->Bool}{held:Bool}(f:Nat)(c:List Value)(y:List UInt8)(q:List MemPlace)(hh:bjX enc Tryz.prog w base sp held f 9 c=some (.lit (.string y),q)):c=[.string ⟨y.toArray⟩]:=by obtain⟨z,hc,hz,_⟩:=bhX Tryz.underlying9 hh;simp only[bbI,bgC,Lit.string.injEq] at hz;rw[hc,hz.1]
def Ho{W:World}{n:String}{g:Nat}{cs:Array Value}(hg:Tryz.prog.globalNamed n=some g)(h:W.var? Tryz.prog n=some cs):∃t fr,W.heap[g]?=some (.cells cs t fr):=by
 unfold World.var? at h;rw[hg] at h;simp only[Option.bind_some] at h;split at h;rename_i c t fr hh;injection h with h
 subst h;exact⟨t,fr,hh⟩;cases h
def gB:Tryz.prog.globalNamed "wageoffice/calendar.before"=some 4:=by kernel_rfl
def gC:Tryz.prog.globalNamed "wageoffice/lexer.classes"=some 5:=by kernel_rfl
def gS:Tryz.prog.globalNamed "wageoffice/lexer.symbols"=some 1:=by kernel_rfl
def gO:Tryz.prog.globalNamed "wageoffice/parser.operators"=some 2:=by kernel_rfl
def gR:Tryz.prog.globalNamed "wageoffice/parser.roles"=some 3:=by kernel_rfl
def gL:Tryz.prog.globalNamed "wageoffice/printer.places"=some 0:=by kernel_rfl
def gLT:(Tryz.prog.globals[(0:Nat)]?).map (·.type)=some 90:=by kernel_rfl
def z2:Tryz.prog.cellsOf 89=2*1:=by kernel_rfl
def zL:Tryz.prog.cellsOf 90=6*2:=by kernel_rfl
def aRV:List (List Int):=[[0,1],[1,2],[2,2],[4,4],[4,5],[5,6]]
def gP:Tryz.prog.globalNamed "internal/strconv.uint64pow10"=some 6:=by kernel_rfl
def gPT:(Tryz.prog.globals[(6:Nat)]?).map (·.type)=some 168:=by kernel_rfl
def zW:Tryz.prog.cellsOf 154=1:=by kernel_rfl
def zP:Tryz.prog.cellsOf 168=20*1:=by kernel_rfl
def gBT:(Tryz.prog.globals[(4:Nat)]?).map (·.type)=some 159:=by kernel_rfl
def gCT:(Tryz.prog.globals[(5:Nat)]?).map (·.type)=some 160:=by kernel_rfl
def gST:(Tryz.prog.globals[(1:Nat)]?).map (·.type)=some 143:=by kernel_rfl
def gOT:(Tryz.prog.globals[(2:Nat)]?).map (·.type)=some 148:=by kernel_rfl
def gRT:(Tryz.prog.globals[(3:Nat)]?).map (·.type)=some 150:=by kernel_rfl
def zI:Tryz.prog.cellsOf 3=1:=by kernel_rfl
def zU:Tryz.prog.cellsOf 5=1:=by kernel_rfl
def zS:Tryz.prog.cellsOf 9=1:=by kernel_rfl
def zB:Tryz.prog.cellsOf 159=13*1:=by kernel_rfl
def zC:Tryz.prog.cellsOf 160=128*1:=by kernel_rfl
def zY:Tryz.prog.cellsOf 143=17*1:=by kernel_rfl
def z6:Tryz.prog.cellsOf 147=6*1:=by kernel_rfl
def zO:Tryz.prog.cellsOf 148=6*6:=by kernel_rfl
def zR:Tryz.prog.cellsOf 150=5*1:=by kernel_rfl
def aGG:List Int:=[0,31,59,90,120,151,181,212,243,273,304,334,365]
def aLH:List (List UInt8):=[[],[101,97,114,110],[100,101,100,117,99,116],[102,108,111,111,114],[105,110,102,111]]
def opsL:List (List (List UInt8)):=[[[111,114],[],[],[],[],[]],[[97,110,100],[],[],[],[],[]],[[],[],[],[],[],[]],[[61,61],[33,61],[60],[60,61],[62],[62,61]],[[43],[45],[],[],[],[]],[[42],[47],[97,116],[],[],[]]]
abbrev yM(y:List UInt8):DataW Unit:=.lit (.string y)
abbrev aJY(z:Int):DataW Unit:=.lit (.int .i64 z)
def aUC:(Rows.laid_wageoffice_printer_places:DataW Unit)=.agg (aRV.map λl=>.agg (l.map aJY)):=by rfl
def aUA:(Rows.laid_wageoffice_calendar_before:DataW Unit)=.agg (aGG.map λz=>.lit (.int .i64 z)):=by rfl
def aUE:(Rows.laid_internal_strconv_uint64pow10:DataW Unit)=.agg (Lib.pow10Tab.map λz=>.lit (.int .u64 z)):=by kernel_rfl
def aUB:(Rows.laid_wageoffice_lexer_classes:DataW Unit)=.agg ((bcB 128).map λi=>.lit (.int .u8 (Nx i:Nat))):=by rfl
def aUG:(Rows.laid_wageoffice_lexer_symbols:DataW Unit)=.agg (F3.map yM):=by rfl
def aUD:(Rows.laid_wageoffice_parser_operators:DataW Unit)=.agg (opsL.map λl=>.agg (l.map yM)):=by rfl
def aUF:(Rows.laid_wageoffice_parser_roles:DataW Unit)=.agg (aLH.map yM):=by rfl
def aSC:((begin Tryz.prog (λ_ _=>0) default).world.heap[(7:Nat)]?).bind Obj.row?=some (#[.int .i64 0],3):=by kernel_rfl
def aKB{W:World}(h:W.ShapedOpen Tryz.prog):∃m,W.cell? ⟨7,0,none⟩=some (.int .i64 m):=by obtain⟨m,hm⟩:=cell_of_shapedOpen_int h (g:=7) (by decide +kernel) aSC rfl (by kernel_rfl) (by kernel_rfl) Tryz.underlying3;exact⟨m,hm⟩
def Uz(c:Cx)(w:World):∀l:List (List UInt8),CF c w (l.map Gz) (l.flatMap λy=>[.string ⟨y.toArray⟩])
 |[]=>.nil
 |_::l=>.cons (.sc rfl) (Uz c w l)
def XB(c:Cx)(w:World):∀l:List Int,CF c w (l.map Hd.int) (l.flatMap λy=>[.int .i64 y])
 |[]=>.nil
 |_::l=>.cons (.sc rfl) (XB c w l)
def zZ(c:Cx)(w:World):∀l:List Int,CF c w (l.map Hd.aaK) (l.flatMap λy=>[.int .u64 y])
 |[]=>.nil
 |_::l=>.cons (.sc rfl) (zZ c w l)
def zX(c:Cx)(w:World):∀l:List Nat,CF c w (l.map λi=>.sc (.int .u8 (Nx i:Nat))) (l.flatMap λi=>[.int .u8 (Nx i:Nat)])
 |[]=>.nil
 |_::l=>.cons (.sc rfl) (zX c w l)
def fM(c:Cx)(w:World):∀l:List (List (List UInt8)),CF c w (l.flatMap λy=>y.map Gz) (l.flatMap λy=>y.flatMap λz=>[.string ⟨z.toArray⟩])
 |[]=>.nil
 |a::l=>(Uz c w a).append (fM c w l)
def Vy{W:World}{g:Nat}{l:List AV}{cs:Array Value}(h:∃t fr,W.heap[g]?=some (.cells cs t fr))(hr:CF (Mo.Zz W) W l cs.toList):A7 (Mo.Zz W) W g 0 l:=by obtain⟨t,fr,h⟩:=h;refine A7.R8 hr λi v hi=>Mo.aMI ?_;rw[aUU,cell_of_row W g i cs t fr h];rwa[bbE] at hi
def aoW{W:World}(h:W.ShapedOpen Tryz.prog):∃cs t f,W.heap[(7:Nat)]?=some (.cells cs t f)/\cs.size=1:=by obtain⟨cs,hh,hs,_⟩:=h.1 7 _ _ (by decide +kernel) aSC;exact⟨cs,_,_,hh,hs⟩
def dB{W:World}{g:Nat}{l:List AV}{cs:Array Value}(h:∃t fr,W.heap[g]?=some (.cells cs t fr))(hr:CF (Mo.Zz W) W l cs.toList):∃vs T f,W.heap[g]?=some (.cells vs T f)/\vs.size=l.length:=by obtain⟨t,fr,h⟩:=h;exact⟨cs,t,fr,h,by have:=hr.len;simpa using this⟩
def aaE{W:World}(h:laidMetH Tryz.prog Rows.printerMatchesReferenceRow.laid W)(hsh:W.ShapedOpen Tryz.prog):∃mx,St (Hd.G mx) (Mo.Zz W) W s0:=by
 have h:laidMet Tryz.prog [("math/bits.deBruijn32tab",Rows.laid_math_bits_deBruijn32tab),("math/bits.deBruijn64tab",Rows.laid_math_bits_deBruijn64tab),("internal/strconv.uint64pow10",Rows.laid_internal_strconv_uint64pow10),("unicode/utf8.acceptRanges",Rows.laid_unicode_utf8_acceptRanges),("strconv.ErrRange",Rows.laid_strconv_ErrRange),("strconv.ErrSyntax",Rows.laid_strconv_ErrSyntax),("wageoffice/calendar.before",Rows.laid_wageoffice_calendar_before),("wageoffice/lexer.classes",Rows.laid_wageoffice_lexer_classes),("wageoffice/lexer.symbols",Rows.laid_wageoffice_lexer_symbols),("wageoffice/parser.operators",Rows.laid_wageoffice_parser_operators),("wageoffice/parser.roles",Rows.laid_wageoffice_parser_roles),("wageoffice/printer.places",Rows.laid_wageoffice_printer_places),("unicode/utf8.first",Rows.laid_unicode_utf8_first)] W:=h
 obtain⟨ps,⟨_,_,_,_,_,_,_,_,_,_,⟨_,_,_,_,_,_,_,_,_,_,⟨g3,t3,cs3,f3,p3,q3,hg3,ht3,hv3,hd3,⟨_,_,_,_,_,_,_,_,_,_,⟨_,_,_,_,_,_,_,_,_,_,⟨_,_,_,_,_,_,_,_,_,_,⟨g7,t7,cs7,f7,p7,q7,hg7,ht7,hv7,hd7,⟨g8,t8,cs8,f8,p8,q8,hg8,ht8,hv8,hd8,⟨g9,t9,cs9,f9,p9,q9,hg9,ht9,hv9,hd9,⟨g10,t10,baE,f10,p10,q10,aVK,aWL,aQM,hd10,⟨g11,t11,baF,f11,p11,q11,aVL,aWM,aQN,aPU,⟨g12,t12,baG,f12,p12,q12,aVM,aWN,aQO,hd12,_⟩,_⟩,_⟩,_⟩,_⟩,_⟩,_⟩,_⟩,_⟩,_⟩,_⟩,_⟩,_⟩:=h;obtain rfl:=bbJ (gP.symm.trans hg3);obtain rfl:=bbJ (gPT.symm.trans ht3);rw[aUE] at hd3;obtain rfl:=bbJ (gB.symm.trans hg7);obtain rfl:=bbJ (gC.symm.trans hg8);obtain rfl:=bbJ (gS.symm.trans hg9);obtain rfl:=bbJ (gO.symm.trans aVK);obtain rfl:=bbJ (gR.symm.trans aVL);obtain rfl:=bbJ (gL.symm.trans aVM);obtain rfl:=bbJ (gLT.symm.trans aWN);rw[aUC] at hd12;obtain rfl:=bbJ (gBT.symm.trans ht7);obtain rfl:=bbJ (gCT.symm.trans ht8);obtain rfl:=bbJ (gST.symm.trans ht9);obtain rfl:=bbJ (gOT.symm.trans aWL);obtain rfl:=bbJ (gRT.symm.trans aWM);rw[aUA] at hd7;rw[aUB] at hd8;rw[aUG] at hd9;rw[aUD] at hd10;rw[aUF] at aPU
 have e3:=J4 (k:=1) (λz:Int=>(blT (.int .u64 z):DataW Unit)) (λz=>[.int .u64 z]) (λ_ _=>rfl)
   (λf c y q hh=>by obtain⟨z,hc,hz,_⟩:=bdC Tryz.underlying154 hh;simp only[bbI,bgC,biB,true_and] at hz;rw[hc,hz.1]) Tryz.underlying168 zW zP hd3
 have e7:=J4 (k:=1) (λz:Int=>(blT (.int .i64 z):DataW Unit)) (λz=>[.int .i64 z]) (λ_ _=>rfl)
   (λf c y q hh=>by obtain⟨z,hc,hz,_⟩:=bdC Tryz.underlying3 hh;simp only[bbI,bgC,biB,true_and] at hz;rw[hc,hz.1]) Tryz.underlying159 zI zB hd7
 have e8:=J4 (k:=1) (λi:Nat=>(blT (.int .u8 (Nx i:Nat)):DataW Unit)) (λi=>[.int .u8 (Nx i:Nat)]) (λ_ _=>rfl)
   (λf c y q hh=>by obtain⟨z,hc,hz,_⟩:=bdC Tryz.underlying5 hh;simp only[bbI,bgC,biB,true_and] at hz;rw[hc,hz.1]) Tryz.underlying160 zU zC hd8
 have e9:=J4 (k:=1) yM (λy=>[.string ⟨y.toArray⟩]) (λ_ _=>rfl) eX Tryz.underlying143 zS zY hd9;have e11:=J4 (k:=1) yM (λy=>[.string ⟨y.toArray⟩]) (λ_ _=>rfl) eX Tryz.underlying150 zS zR aPU
 have e10:=J4 (k:=6) (l:=opsL) (λl=>(DataW.agg (l.map yM):DataW Unit)) (λy=>y.flatMap λz=>[.string ⟨z.toArray⟩]) (by decide)
   (λf c y q hh=>J4 (k:=1) yM (λy=>[.string ⟨y.toArray⟩]) (λ_ _=>rfl) eX Tryz.underlying147 zS z6 hh) Tryz.underlying148 z6 zO hd10
 have e12:=J4 (k:=2) (l:=aRV) (λl=>(DataW.agg (l.map aJY):DataW Unit)) (λy=>y.flatMap λz=>[.int .i64 z]) (by decide)
   (λf c y q hh=>J4 (k:=1) aJY (λz=>[.int .i64 z]) (λ_ _=>rfl)
     (λf c y q hh=>by obtain⟨z,hc,hz,_⟩:=bdC Tryz.underlying3 hh;simp only[bbI,bgC,biB,true_and] at hz;rw[hc,hz.1]) Tryz.underlying89 zI z2 hh) Tryz.underlying90 z2 zL hd12
 obtain⟨mx,hm⟩:=aKB hsh;have E5:=Mo.stW W;refine⟨mx,E5.len,E5.desc,E5.nodup,E5.low,E5.box,E5.IG,E5.row,E5.H8,E5.NM,E5.Nz,E5.H7,λg cs h=>?_,E5.RU,λg cs h=>⟨⟨by simp[Mo.Zz],λr n cap sz e=>by simp[Mo.Zz] at e⟩,?_⟩⟩;unfold Hd.G at h;split at h;rename_i hg;cases h;rw[beq_true hg];exact Vy (Ho gO aQM) (by rw[e10];exact fM _ _ opsL);split at h;rename_i hg;cases h;rw[beq_true hg];exact Vy (Ho gR aQN) (by rw[e11];exact Uz _ _ aLH);split at h;rename_i hg;cases h;rw[beq_true hg];exact Vy (Ho gB hv7) (by rw[e7];exact XB _ _ aGG);split at h;rename_i hg;cases h;rw[beq_true hg];exact Vy (Ho gC hv8) (by rw[e8];exact zX _ _ _);split at h;rename_i hg;cases h;rw[beq_true hg];exact Vy (Ho gS hv9) (by rw[e9];exact Uz _ _ _);split at h;rename_i hg;cases h;rw[beq_true hg];exact .cons (Mo.aMI hm) (.sc rfl) .nil;split at h;rename_i hg;cases h;rw[beq_true hg];exact Vy (Ho gP hv3) (by rw[e3];exact zZ _ _ _);split at h;rename_i hg;cases h;rw[beq_true hg];exact Vy (Ho gL aQO) (by rw[e12];exact XB _ _ [0,1,1,2,2,2,4,4,4,5,5,6]);cases h;unfold Hd.G at h;split at h;rename_i hg;cases h;rw[beq_true hg];exact dB (Ho gO aQM) (by rw[e10];exact fM _ _ opsL);split at h;rename_i hg;cases h;rw[beq_true hg];exact dB (Ho gR aQN) (by rw[e11];exact Uz _ _ aLH);split at h;rename_i hg;cases h;rw[beq_true hg];exact dB (Ho gB hv7) (by rw[e7];exact XB _ _ aGG);split at h;rename_i hg;cases h;rw[beq_true hg];exact dB (Ho gC hv8) (by rw[e8];exact zX _ _ _);split at h;rename_i hg;cases h;rw[beq_true hg];exact dB (Ho gS hv9) (by rw[e9];exact Uz _ _ _);split at h;rename_i hg;cases h;rw[beq_true hg];obtain⟨cs,t,f,q1,q2⟩:=aoW hsh;exact⟨cs,t,f,q1,q2⟩;split at h;rename_i hg;cases h;rw[beq_true hg];exact dB (Ho gP hv3) (by rw[e3];exact zZ _ _ _);split at h;rename_i hg;cases h;rw[beq_true hg];exact dB (Ho gL aQO) (by rw[e12];exact XB _ _ [0,1,1,2,2,2,4,4,4,5,5,6]);cases h
def yI{mx:Int}{f:FuncId}{args:List AV}{vs:List Value}{W:World}(E5:St (Hd.G mx) (Mo.Zz W) W s0)(h:Pure Tryz.prog (Hd.G mx) f args (.sc (.bool true)))(ha:CF (Mo.Zz W) W args vs):Calls Tryz.prog f vs.toArray W λe W'=>e=.returned (.bool true)/\Below W.heap.size W W':=by refine(h s0 (Mo.Zz W) W vs E5 ha).mono ?_;rintro e w' ⟨c',hx,_,u,rfl,hu⟩;cases hu;exact⟨rfl,hx.below⟩
def aJX:DataW Unit->List Value
 |.lit l=>[l.value]
 |_=>[]
def aOX:DataW Unit->List Value
 |.agg l=>l.flatMap aJX
 |d=>aJX d
def Tx:DataW Unit->Array Value
 |.agg l=>(l.flatMap aOX).toArray
 |d=>(aJX d).toArray
def putCells(cs:Array Value):Obj->Obj
 |.cells _ t frozen=>.cells cs t frozen
 |o=>o
def low:Nat:=(blP Tryz.prog default ⟨#[],#[],[]⟩).heap.size
abbrev aSR:ByteArray:={ data:=#[118,97,108,117,101,32,111,117,116,32,111,102,32,114,97,110,103,101] }
abbrev aSS:ByteArray:={ data:=#[105,110,118,97,108,105,100,32,115,121,110,116,97,120] }
def Yg(os:Os):World :=
 let w0:=blP Tryz.prog os ⟨#[.cells #[.string aSR] 207,.cells #[.string aSS] 207],#[],[]⟩
 { w0 with heap:=(((((((((((((w0.heap.modify 10 (putCells (Tx Rows.laid_math_bits_deBruijn32tab))).modify
     11 (putCells (Tx Rows.laid_math_bits_deBruijn64tab))).modify
     6 (putCells (Tx Rows.laid_internal_strconv_uint64pow10))).modify
     9 (putCells (Tx Rows.laid_unicode_utf8_acceptRanges))).modify
     13 (putCells #[.iface 205 (.pointer (some ⟨low,0,none⟩))])).modify
     12 (putCells #[.iface 205 (.pointer (some ⟨low+1,0,none⟩))])).modify
     4 (putCells (Tx Rows.laid_wageoffice_calendar_before))).modify
     5 (putCells (Tx Rows.laid_wageoffice_lexer_classes))).modify
     1 (putCells (Tx Rows.laid_wageoffice_lexer_symbols))).modify
     2 (putCells (Tx Rows.laid_wageoffice_parser_operators))).modify
     3 (putCells (Tx Rows.laid_wageoffice_parser_roles))).modify
     0 (putCells (Tx Rows.laid_wageoffice_printer_places))).modify
     8 (putCells (Tx Rows.laid_unicode_utf8_first))) }
def aoD(os:Os)(args:Array Value):laidMet Tryz.prog Rows.printerMatchesReferenceRow.laid ((Yg os).forCall (λ_ _=>0) ⟨#[],args,[]⟩).memory :=
 laidMet_of_run3 8 (by kernel_rfl) (by kernel_rfl) (by kernel_rfl)
end Go.Proofs.YtkcimienkafhmaaGreatDoor
namespace Go.Proofs.YtkcimienkafhmaaGreatDoor
open Go
def arE:Tryz.prog.laidByTextLater [("math/bits.deBruijn32tab",Rows.laid_math_bits_deBruijn32tab),("math/bits.deBruijn64tab",Rows.laid_math_bits_deBruijn64tab),("internal/strconv.uint64pow10",Rows.laid_internal_strconv_uint64pow10),("unicode/utf8.acceptRanges",Rows.laid_unicode_utf8_acceptRanges),("strconv.ErrRange",Rows.laid_strconv_ErrRange),("strconv.ErrSyntax",Rows.laid_strconv_ErrSyntax),("wageoffice/calendar.before",Rows.laid_wageoffice_calendar_before),("wageoffice/lexer.classes",Rows.laid_wageoffice_lexer_classes),("wageoffice/lexer.symbols",Rows.laid_wageoffice_lexer_symbols),("wageoffice/parser.operators",Rows.laid_wageoffice_parser_operators),("wageoffice/parser.roles",Rows.laid_wageoffice_parser_roles),("wageoffice/printer.places",Rows.laid_wageoffice_printer_places)] [.data,.data,.data,.data,.sentinel,.sentinel,.data,.data,.data,.data,.data,.data] true :=
 Program.laidByTextLater_by_one 113 8 129 (by kernel_rfl) (by kernel_rfl) (by kernel_rfl) (by kernel_rfl) (by kernel_rfl) (by kernel_rfl) (λ_ _=>by kernel_rfl)
def Oj:Tryz.pinned.checked.prog.pinnedFits "unicode/utf8.first"=true:=by kernel_rfl
def sP:Tryz.pinned.checked.prog.headLifts.contains "ownunsafe"=false:=by kernel_rfl
def jX:Tryz.pinned.checked.prog.listedFits [("math/bits.deBruijn32tab",Rows.laid_math_bits_deBruijn32tab),("math/bits.deBruijn64tab",Rows.laid_math_bits_deBruijn64tab),("internal/strconv.uint64pow10",Rows.laid_internal_strconv_uint64pow10),("unicode/utf8.acceptRanges",Rows.laid_unicode_utf8_acceptRanges),("strconv.ErrRange",Rows.laid_strconv_ErrRange),("strconv.ErrSyntax",Rows.laid_strconv_ErrSyntax),("wageoffice/calendar.before",Rows.laid_wageoffice_calendar_before),("wageoffice/lexer.classes",Rows.laid_wageoffice_lexer_classes),("wageoffice/lexer.symbols",Rows.laid_wageoffice_lexer_symbols),("wageoffice/parser.operators",Rows.laid_wageoffice_parser_operators),("wageoffice/parser.roles",Rows.laid_wageoffice_parser_roles),("wageoffice/printer.places",Rows.laid_wageoffice_printer_places),("unicode/utf8.first",Rows.laid_unicode_utf8_first)]=true:=by
 unfold Program.listedFits;rw[sP]
 kernel_rfl
def tie:Tryz.prog.laidByTextLater [("math/bits.deBruijn32tab",Rows.laid_math_bits_deBruijn32tab),("math/bits.deBruijn64tab",Rows.laid_math_bits_deBruijn64tab),("internal/strconv.uint64pow10",Rows.laid_internal_strconv_uint64pow10),("unicode/utf8.acceptRanges",Rows.laid_unicode_utf8_acceptRanges),("strconv.ErrRange",Rows.laid_strconv_ErrRange),("strconv.ErrSyntax",Rows.laid_strconv_ErrSyntax),("wageoffice/calendar.before",Rows.laid_wageoffice_calendar_before),("wageoffice/lexer.classes",Rows.laid_wageoffice_lexer_classes),("wageoffice/lexer.symbols",Rows.laid_wageoffice_lexer_symbols),("wageoffice/parser.operators",Rows.laid_wageoffice_parser_operators),("wageoffice/parser.roles",Rows.laid_wageoffice_parser_roles),("wageoffice/printer.places",Rows.laid_wageoffice_printer_places)] [.data,.data,.data,.data,.sentinel,.sentinel,.data,.data,.data,.data,.data,.data] true :=
 Program.laidByTextLater.sub arE ["math/bits.deBruijn32tab","math/bits.deBruijn64tab","internal/strconv.uint64pow10","unicode/utf8.acceptRanges","strconv.ErrRange","strconv.ErrSyntax","wageoffice/calendar.before","wageoffice/lexer.classes","wageoffice/lexer.symbols","wageoffice/parser.operators","wageoffice/parser.roles","wageoffice/printer.places"] (by kernel_rfl) (by kernel_rfl)
def Mg:Rows.printerMatchesReferenceRow.laidByTextAt .later Tryz.pinned [.data,.data,.data,.data,.sentinel,.sentinel,.data,.data,.data,.data,.data,.data,.pinned] true :=
 OpenClaim.laidByTextAt_pinned rfl rfl tie rfl rfl rfl rfl (λy hy _e=>by
  simp only[Rows.printerMatchesReferenceRow,List.zip_cons_cons,List.zip_nil_right,bbG,List.mem_nil_iff,or_false] at hy;rcases hy with rfl | rfl | rfl | rfl | rfl | rfl | rfl | rfl | rfl | rfl | rfl | rfl | rfl
  cases _e;cases _e;cases _e;cases _e;cases _e;cases _e;cases _e;cases _e;cases _e;cases _e;cases _e;cases _e;exact⟨Oj,by kernel_rfl⟩) jX
end Go.Proofs.YtkcimienkafhmaaGreatDoor
namespace Go.Proofs.YtkcimienkafhmaaGreatDoor
open AI Go
namespace Mo
set_option maxHeartbeats 4000000
variable {mx:Int}
def pAt(nx:Nat)(L:List Nd)(i:Nat):List (Nat×Nat):=match L[i]? with
 |some k=>(match k.kids with|[]=>[]|_::_=>[(nx,0+i*11+9)])
 |none=>[]
section
variable {b:Nat}{B:Nat->Nat->Prop}{w0:World}{g cap:Nat}{ps:List (Nat×Nat)}{s:AS}{Q:QE}{j:List Value}
variable {id off nx:Nat}{L:List Nd}
end
abbrev Bx:=List (Nd×Option Nat)
def a1:AF:=.cells [.sc (.int .i64 0),.sc (.string VE),.sc (.string VE),.sc (.int .i64 0),.sc (.int .i64 0),.sc (.int .i64 0),.sc (.int .i64 0),.sc (.int .i64 0),.sl .full 0 [],.sl .full 0 [],.sc (.int .i64 0)]
mutual
def cN:Nd->Nat
 |⟨_,_,_,_,_,_,_,_,kids,_⟩=>1+cL kids
def cL:List Nd->Nat
 |[]=>0
 |k::ks=>cN k+cL ks
end
mutual
def psN:Nd->Prop
 |⟨_,_,_,_,_,_,_,Cg,kids,_⟩=>Cg.ps.length*24<=140737488355328/\psL kids
def psL:List Nd->Prop
 |[]=>True
 |k::ks=>psN k/\psL ks
end
def adC:∀l:List Nd,psL l↔∀k∈l,psN k
 |[]=>by simp[psL]
 |a::l=>by rw[psL,adC l];simp
def oM(n:Nd):psN n↔n.Cg.ps.length*24<=140737488355328/\∀k∈n.kids,psN k:=by cases n;rw[psN,adC]
def qAt(nx:Nat)(L:List Nd)(i:Nat):List ((Nat×Nat)×List Nd):=match L[i]? with
 |some k=>(match k.kids with|[]=>[]|x::y=>[((nx,0+i*11+9),x::y)])
 |none=>[]
def kQ(nx:Nat)(L:List Nd)(i:Nat):List ((Nat×Nat)×List Nd):=(bcB i).flatMap (qAt nx L)
end Mo
end Go.Proofs.YtkcimienkafhmaaGreatDoor
namespace Go.Proofs.YtkcimienkafhmaaGreatDoor
open AI Go Go.RowKit LexS
namespace Mo
variable {mx:Int}
def aYV{cx:Cx}{w:World}{s:AS}(h:St (G mx) cx w s):N7 w:=by
 refine⟨λi hi=>?_,λj v hj=>?_⟩;have hc:=h.Mr 5 Hd.avA rfl;have he:Hd.avA[i]?=some (.sc (.int .u8 (Nx i:Nat))):=by simp[Hd.avA,hi]
 obtain⟨v,hv,hr⟩:=hc.get he;cases hr;have:=hv.2.2;rwa[aUU] at this;have hc:=h.Mr 1 Hd.azW rfl;have hj':(F3.map λy=>Value.string ⟨y.toArray⟩)[j]?=some v:=by simpa[II] using hj
 rw[bbS] at hj';obtain⟨y,hy,rfl⟩:=Option.map_eq_some_iff.1 hj';have he:Hd.azW[j]?=some (Gz y):=by simp[Hd.azW,hy]
 obtain⟨u,hu,hr⟩:=hc.get he;unfold Gz at hr;cases hr;have:=hu.2.2;rwa[aUU] at this
def Uk{w w':World}(h:Below w.heap.size w w'):S4 w w' (λ_=>False):=⟨h.os,h.tape,h.output,h.size,λk hk _=>h.block k hk⟩
def afS(w:World)(e:TypeId)(s:ByteArray):S4 w (Lib.bytesWorld w e s) (λ_=>False) :=
 Uk (Lib.below_freeze ((Below.drew (Below.refl _ w)).alloc (aHT _) _) (p:=⟨w.heap.size,_,Option.none⟩) (aHT _) 1)
def J6(x:LexS.Tok):Tk:=⟨x.1,⟨x.2.1.toArray⟩,x.2.2⟩
def aAL(l:List LexS.Tok):(rows EC (l.map J6)).length=(KO l).length:=by
 unfold KO
 induction l with|nil=>rfl|cons x l ih=>rw[bcH,Hc,bdP,cZ,cZ,ih];rfl
def aLZ(cx:Cx)(w:World)(l:List LexS.Tok):CF cx w (rows EC (l.map J6)) (KO l):=by
 unfold KO
 induction l with
 |nil=>exact .nil
 |cons x l ih=>
  rw[bcH,Hc,bdP];exact CF.append (.cons (.sc rfl) (.cons (.sc rfl) (.cons (.sc rfl) .nil))) ih
def Fy(s:ByteArray):Option (List Tk×Int×Int):=some ((NF s.data.toList).1.map J6,(((NF s.data.toList).2.1:Nat):Int),(((NF s.data.toList).2.2:Nat):Int))
def R3{s:ByteArray}{yR:List Tk×Int×Int}(h:Fy s=some yR):Pure P (G mx) 35 [.sc (.string s)] (.DW [.sl .lost yR.1.length (rows EC yR.1),.sc (.int .i64 yR.2.1),.sc (.int .i64 yR.2.2)]):=by
 cases h;intro s0 cx w vs hs ha;cases ha with
 |cons h1 tl=>
 cases tl;cases h1;refine(axB s w (aYV hs)).mono ?_;rintro e w' ⟨u,rfl,Lv,hb⟩;obtain⟨x,st⟩:=hs.same (Uk hb);refine⟨cx,x,st,_,rfl,?_⟩;show Rp cx w' (.DW [.sl .lost ((NF (L s)).1.map J6).length (rows EC ((NF (L s)).1.map J6)),.sc (.int .i64 (NF (L s)).2.1),.sc (.int .i64 (NF (L s)).2.2)]) _;refine .DW (vs:=[u,.int .i64 (NF (L s)).2.1,.int .i64 (NF (L s)).2.2]) (.cons ?_ (.cons (.sc rfl) (.cons (.sc rfl) .nil)));have hl:=aAL (NF (L s)).1;have hc:=aLZ cx w' (NF (L s)).1;rw[List.length_map];obtain⟨h1,⟨rfl,h2⟩ | ⟨g,cap,cur,rfl,hg,hw,hn,_,hsz,htk⟩⟩:=Lv;have:(NF (L s)).1=[]:=bbD h2;rw[this];exact .sl0 trivial;refine .MT hn (A7.R8 hc (λi v hi=>⟨(Array.getElem?_eq_some_iff.1 hw).1,λhsh=>?_,?_⟩)) trivial;have:g < w.heap.size:=hs.fR hsh;omega;rw[aUU,cell_of_row w' g i cur _ _ hw];rw[<- htk,List.getElem?_take] at hi;split at hi;rwa[bbE] at hi;cases hi
def Tn(s:ByteArray):Option (Int×Unit):=if s.data.toList.length<=18 then (Lib.atoi s.data.toList).map λn=>(n,()) else none
def abF{s:ByteArray}{yR:Int×Unit}(h:Tn s=some yR):Pure P (G mx) 172 [.sc (.string s)] (.DW [.sc (.int .i64 yR.1),.sc .nilIface]):=by
 unfold Tn at h;split at h
 ·rename_i hl
  cases hn:Lib.atoi s.data.toList with
  |none=>rw[hn] at h;cases h
  |some n=>
   rw[hn] at h;cases h;intro s0 cx w vs hs ha;cases ha with
   |cons h1 tl=>
   cases tl;cases h1;refine(Tryz.strconv_Atoi s n (by show s.data.size<=18;rw[<- Array.length_toList];exact hl) hn w).mono ?_;rintro e w' ⟨rfl,tt,rfl⟩;obtain⟨x,st⟩:=hs.same (afS w _ tt);exact⟨cx,x,st,_,rfl,.DW (vs:=[.int .i64 n,.nilIface]) (.cons (.sc rfl) (.cons (.sc rfl) .nil))⟩
 cases h
def MA(t o n:ByteArray)(k:Int):Option ByteArray:=if 1<=o.size/\t.size+Lib.countB t o*n.size<=4000 then some ⟨(Lib.replace t.data.toList o.data.toList n.data.toList k).toArray⟩ else none
def oP{t o n:ByteArray}{k:Int}{yR:ByteArray}(h:MA t o n k=some yR):Pure P (G mx) 160 [.sc (.string t),.sc (.string o),.sc (.string n),.sc (.int .i64 k)] (.sc (.string yR)):=by
 unfold MA at h;split at h
 ·rename_i hl
  cases h;intro s0 cx w vs hs ha;cases ha with
  |cons a1 tl=>
  cases tl with
  |cons a2 tl=>
  cases tl with
  |cons a3 tl=>
  cases tl with
  |cons a4 tl=>
  cases tl;cases a1;cases a2;cases a3;cases a4
  have hm:w.cell? ⟨7,0,none⟩=some (.int .i64 mx):=by have hg:=hs.Mr 7 [Hd.int mx] rfl;obtain⟨v,hv,hr⟩:=hg.get (i:=0) rfl;unfold Hd.int at hr;cases hr;exact hv.2.2
  refine(Tryz.strings_Replace t o n k mx w (by omega) hm hl.1 (by omega)).mono ?_;rintro e w' ⟨rfl,hb⟩;obtain⟨x,st⟩:=hs.same (Uk hb);exact⟨cx,x,st,_,rfl,.sc rfl⟩
 cases h
def asW:Nd⊕Dg->Nd×Dg×Bool
 |.inl n=>(n,⟨0,0⟩,true)
 |.inr d=>(⟨0,VE,VE,0,0,0,0,⟨0,[]⟩,[],0⟩,d,false)
end Mo
end Go.Proofs.YtkcimienkafhmaaGreatDoor
