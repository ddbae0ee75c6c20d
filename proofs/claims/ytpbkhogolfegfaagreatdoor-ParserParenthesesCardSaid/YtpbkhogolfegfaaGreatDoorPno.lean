/- Part of a proof: see the last text. -/
import Derived.Test.YtpbkhogolfegfaaGreatDoorPnn
import Derived.Test.YtpbkhogolfegfaaGreatDoorRows
import Derived.Test.YtpbkhogolfegfaaGreatDoorChecked
import Derived.ProofKit
import Derived.OpenShut
import Derived.Deep.DeepHandedRow
import Derived.Deep.Slices
set_option linter.unusedVariables false
set_option linter.unusedSimpArgs false
set_option linter.defProp false
noncomputable section
open Go.DataW renaming trod_int->blA,trod_string->bpR,trod_struct->bpQ
open List renaming drop->bmA,getElem?_eq_getElem->abI,take->blZ
namespace Go.Proofs.YtpbkhogolfegfaaGreatDoor
open AI Go
namespace Mo
open Go.ChangeShapes Go.WideShapes Go.ChangeAt Go.RowKit
set_option maxRecDepth 100000
set_option maxHeartbeats 4000000
def asA{z:Int}(h:(Lit.int .i64 z).wf=true):-9223372036854775808<=z/\z<=9223372036854775807:=by
 simp only[Lit.wf,Bool.and_eq_true,decide_eq_true_eq] at h;exact h
def c3:P.cellsOf 3=1:=by kernel_rfl
def c5:P.cellsOf 5=1:=by kernel_rfl
def c9:P.cellsOf 9=1:=by kernel_rfl
def c24:P.cellsOf 24=1:=by kernel_rfl
def c26:P.cellsOf 26=2:=by kernel_rfl
def c27:P.cellsOf 27=1:=by kernel_rfl
def c29:P.cellsOf 29=11:=by kernel_rfl
def c64:P.cellsOf 64=3:=by kernel_rfl
def bF(W:World):Cx:=⟨W.heap.size,[],[],λ_ _=>False⟩
def aTS{W:World}{g i:Nat}{v:Value}(h:W.cell? ⟨g,i,none⟩=some v):MD (bF W) W g i v:=by
 refine⟨World.block_lt_of_cell? W _ h,λhs=>?_,h⟩;rcases hs with hs | ⟨r,n,cap,sz,hr,_⟩ | hs
 cases hs;simp[bF] at hr;exact hs
def stW(W:World):St (λ_=>none) (bF W) W s0 :=
 ⟨rfl,trivial,(λi j g h1=>by simp[bF] at h1),(λg hg=>by cases hg),(λid g b h1=>by simp[bF] at h1),rfl,(λr g n cap sz hr=>by simp[bF] at hr),(λr n hr=>by cases hr),(λg hg=>by cases hg),(λg i hb=>hb.elim),(λr r' g n cap sz n' cap' OL hr=>by simp[bF] at hr),(λg cs hg=>by cases hg),Nat.le_refl _,(λg cs hg=>by cases hg)⟩
def alV{w:World}{a:Addr}{v:Value}(h:w.cell? a=some v):a=⟨a.block,a.off,none⟩:=by
 obtain⟨b,o,s⟩:=a;cases s with
 | none=>rfl
 | some x =>
   exfalso;unfold World.cell? at h;split at h<;>simp at h
section
variable {H:Type} {enc:TypeId×Value->H} {W:World}
abbrev Td(enc:TypeId×Value->H)(W:World)(n:Nat)(t:TypeId)(cs:List Value):Option (DataW H×List MemPlace):=DataW.trod enc P W 0 (λ_=>true) true n t cs
def pK{c:Cx}{w:World}{g o:Nat}{xs ys:List AV}(h:A1 c w g o xs)(k:A1 c w g (o+xs.length) ys):A1 c w g o (xs++ys):=by
 induction xs generalizing o with
 | nil=>exact k
 | cons a xs ih =>
   cases h with
   | cons hv h1 t=>exact .cons hv h1 (ih t (by rw[List.length_cons] at k;rwa[show o+1+xs.length=o+(xs.length+1) by omega]))
def nJ{α:Type}(f:α->List AV)(c:Nat)(hc:0 < c)(hf:∀a,(f a).length=c)(ok:α->Prop){ts te:TypeId}(hu:P.underlying ts=some (.slice te))(hce:P.cellsOf te=c){fuel:Nat}{v:Value}{x:DataW H×List MemPlace}
   (aWY:∀n cs x,n < fuel->Td enc W n te cs=some x->∃y:α,ok y/\Cv (bF W) W (f y) cs)
   (h:Td enc W fuel ts [v]=some x):∃l:List α,Rp (bF W) W (.sl .lost l.length (rows f l)) v/\(∀x∈l,ok x)/\l.length<=9223372036854775807:=by
 rcases DataW.trod_slice hu h with ⟨Yz,_⟩ | ⟨a,len,cap,bhO,rest,n,hn,Yz,_,_,hl,hm,hlen,hel,_,_⟩
 obtain rfl:v=.slice none 0 0:=by simpa using Yz
 exact⟨[],.sl0 trivial,by simp,by simp⟩
 · obtain rfl:v=.slice (some a) len cap:=by simpa using Yz
   have bhP:len<=9223372036854775807:=by unfold maxLen at hm;omega
   have hex:∀i,i < len->∃y:α,ok y/\∃cs,Cv (bF W) W (f y) cs/\cs.length=c/\∀j,j < c->W.cell? (a.add (i*c+j))=cs[j]?:=by
     intro i hi;have N1:=hel i hi;rw[abI (by omega)] at N1;obtain⟨cs',h1,h2⟩:=Option.bind_eq_some_iff.1 N1;obtain⟨y,hy,hr⟩:=aWY n cs' _ (by omega) h2;rw[hce] at h1;obtain⟨_,He,Xs⟩:=World.cells?_some h1;refine⟨y,hy,cs',hr,He,λj hj=>?_⟩;rw[<- Go.Deep.add_add];exact Xs j hj
   by_cases h0:len=0;subst h0;exact⟨[],.sl0 trivial,by simp,by simp⟩
   · have ha:a=⟨a.block,a.off,none⟩:=by
       obtain⟨y,_,cs,_,He,Xs⟩:=hex 0 (by omega);have h1:=Xs 0 hc;rw[abI (by omega)] at h1;have h2:a.add (0*c+0)=a:=by simp[Addr.add]
       rw[h2] at h1;exact alV h1
     have hadd:∀k,a.add k=⟨a.block,a.off+k,none⟩:=by
       intro k;rw[ha];unfold Addr.add;split;rename_i hk;subst hk;rfl;rfl
     have key:∀d k,k+d=len->∃l:List α,l.length=d/\(∀x∈l,ok x)/\A1 (bF W) W a.block (a.off+k*c) (rows f l):=by
       intro d
       induction d with
       | zero=>intro k _;exact⟨[],rfl,by simp,.nil⟩
       | succ d ih =>
         intro k hk;obtain⟨y,hy,cs,hr,He,Xs⟩:=hex k (by omega);obtain⟨l,h1,h2,h3⟩:=ih (k+1) (by omega);refine⟨y::l,by simp[h1],λx hx=>?_,?_⟩;rcases List.mem_cons.1 hx with rfl | hx
         exact hy;exact h2 x hx;rw[Fv];refine pK (A1.Qw hr λj v hv=>?_) ?_;have hj:j < c:=by have:=(List.getElem?_eq_some_iff.1 hv).1;omega
         have:=Xs j hj;rw[hadd,hv] at this;rw[show a.off+k*c+j=a.off+(k*c+j) by omega];exact aTS this;rw[hf y,show a.off+k*c+c=a.off+(k+1)*c by rw[Nat.add_mul];omega];exact h3
     obtain⟨l,h1,h2,h3⟩:=key len 0 (by omega);rw[Nat.zero_mul,Nat.add_zero] at h3;refine⟨l,?_,h2,by omega⟩;rw[ha,h1];exact .K6 hl h3 trivial
def o64:∀(n:Nat) (cs:List Value) (x:DataW H×List MemPlace),Td enc W n 64 cs=some x->∃y:Pc,aRR y/\Cv (bF W) W (Ov y) cs:=by
 intro n cs x h;obtain⟨xs,m,hm,_,hl,hlen,hf⟩:=bpQ Tryz.underlying64 h;rw[c64] at hl
 match cs,hl with
 | [a0,a1,a2],_ =>
   have h0:Td enc W m 3 (blZ (P.cellsOf 3) (bmA 0 [a0,a1,a2]))=xs[0]?:=hf 0 _ rfl;rw[c3,abI (by rw[hlen];decide)] at h0;have h0:Td enc W m 3 [a0]=some _:=h0;have h1:Td enc W m 3 (blZ (P.cellsOf 3) (bmA 1 [a0,a1,a2]))=xs[1]?:=hf 1 _ rfl;rw[c3,abI (by rw[hlen];decide)] at h1;have h1:Td enc W m 3 [a1]=some _:=h1;have h2:Td enc W m 3 (blZ (P.cellsOf 3) (bmA 2 [a0,a1,a2]))=xs[2]?:=hf 2 _ rfl;rw[c3,abI (by rw[hlen];decide)] at h2;have h2:Td enc W m 3 [a2]=some _:=h2;obtain⟨z0,q0,_,w0⟩:=blA Tryz.underlying3 h0;obtain rfl:a0=.int .i64 z0:=by simpa using q0
   obtain⟨z1,q1,_,w1⟩:=blA Tryz.underlying3 h1;obtain rfl:a1=.int .i64 z1:=by simpa using q1
   obtain⟨z2,q2,_,w2⟩:=blA Tryz.underlying3 h2;obtain rfl:a2=.int .i64 z2:=by simpa using q2
   exact⟨⟨z0,z1,z2⟩,⟨(asA w0),(asA w1),(asA w2)⟩,(.cons (.sc rfl) (.cons (.sc rfl) (.cons (.sc rfl) .nil)))⟩
def o26:∀(n:Nat) (cs:List Value) (x:DataW H×List MemPlace),Td enc W n 26 cs=some x->∃y:Fn,wY y/\Cv (bF W) W (vK y) cs:=by
 intro n cs x h;obtain⟨xs,m,hm,_,hl,hlen,hf⟩:=bpQ Tryz.underlying26 h;rw[c26] at hl
 match cs,hl with
 | [a0,a1],_ =>
   have h0:Td enc W m 3 (blZ (P.cellsOf 3) (bmA 0 [a0,a1]))=xs[0]?:=hf 0 _ rfl;rw[c3,abI (by rw[hlen];decide)] at h0;have h0:Td enc W m 3 [a0]=some _:=h0;have h1:Td enc W m 24 (blZ (P.cellsOf 24) (bmA 1 [a0,a1]))=xs[1]?:=hf 1 _ rfl;rw[c24,abI (by rw[hlen];decide)] at h1;have h1:Td enc W m 24 [a1]=some _:=h1;obtain⟨z0,q0,_,w0⟩:=blA Tryz.underlying3 h0;obtain rfl:a0=.int .i64 z0:=by simpa using q0
   obtain⟨l1,r1,k1,b1⟩:=nJ Ov 3 (by decide) (λ_=>rfl) aRR Tryz.underlying24 c64 (λk cs x hk ht=>o64 k cs x ht) h1;exact⟨⟨z0,l1⟩,⟨b1,k1⟩,(.cons (.sc rfl) (.cons r1 .nil))⟩
def o29:∀(n:Nat) (cs:List Value) (x:DataW H×List MemPlace),Td enc W n 29 cs=some x->∃y:Nd,GZ y/\Cv (bF W) W (CW y) cs:=by
 intro n
 induction n using Nat.strongRecOn with
 | _ n ih =>
 intro cs x h;obtain⟨xs,m,hm,_,hl,hlen,hf⟩:=bpQ Tryz.underlying29 h;rw[c29] at hl
 match cs,hl with
 | [a0,a1,a2,a3,a4,a5,a6,a7,a8,a9,a10],_ =>
   have h0:Td enc W m 3 (blZ (P.cellsOf 3) (bmA 0 [a0,a1,a2,a3,a4,a5,a6,a7,a8,a9,a10]))=xs[0]?:=hf 0 _ rfl;rw[c3,abI (by rw[hlen];decide)] at h0;have h0:Td enc W m 3 [a0]=some _:=h0;have h1:Td enc W m 9 (blZ (P.cellsOf 9) (bmA 1 [a0,a1,a2,a3,a4,a5,a6,a7,a8,a9,a10]))=xs[1]?:=hf 1 _ rfl;rw[c9,abI (by rw[hlen];decide)] at h1;have h1:Td enc W m 9 [a1]=some _:=h1;have h2:Td enc W m 9 (blZ (P.cellsOf 9) (bmA 2 [a0,a1,a2,a3,a4,a5,a6,a7,a8,a9,a10]))=xs[2]?:=hf 2 _ rfl;rw[c9,abI (by rw[hlen];decide)] at h2;have h2:Td enc W m 9 [a2]=some _:=h2;have h3:Td enc W m 3 (blZ (P.cellsOf 3) (bmA 3 [a0,a1,a2,a3,a4,a5,a6,a7,a8,a9,a10]))=xs[3]?:=hf 3 _ rfl;rw[c3,abI (by rw[hlen];decide)] at h3;have h3:Td enc W m 3 [a3]=some _:=h3;have h4:Td enc W m 3 (blZ (P.cellsOf 3) (bmA 4 [a0,a1,a2,a3,a4,a5,a6,a7,a8,a9,a10]))=xs[4]?:=hf 4 _ rfl;rw[c3,abI (by rw[hlen];decide)] at h4;have h4:Td enc W m 3 [a4]=some _:=h4;have h5:Td enc W m 3 (blZ (P.cellsOf 3) (bmA 5 [a0,a1,a2,a3,a4,a5,a6,a7,a8,a9,a10]))=xs[5]?:=hf 5 _ rfl;rw[c3,abI (by rw[hlen];decide)] at h5;have h5:Td enc W m 3 [a5]=some _:=h5;have h6:Td enc W m 3 (blZ (P.cellsOf 3) (bmA 6 [a0,a1,a2,a3,a4,a5,a6,a7,a8,a9,a10]))=xs[6]?:=hf 6 _ rfl;rw[c3,abI (by rw[hlen];decide)] at h6;have h6:Td enc W m 3 [a6]=some _:=h6;have h7:Td enc W m 26 (blZ (P.cellsOf 26) (bmA 7 [a0,a1,a2,a3,a4,a5,a6,a7,a8,a9,a10]))=xs[7]?:=hf 7 _ rfl;rw[c26,abI (by rw[hlen];decide)] at h7;have h7:Td enc W m 26 [a7,a8]=some _:=h7;have h8:Td enc W m 27 (blZ (P.cellsOf 27) (bmA 9 [a0,a1,a2,a3,a4,a5,a6,a7,a8,a9,a10]))=xs[8]?:=hf 8 _ rfl;rw[c27,abI (by rw[hlen];decide)] at h8;have h8:Td enc W m 27 [a9]=some _:=h8;have h9:Td enc W m 3 (blZ (P.cellsOf 3) (bmA 10 [a0,a1,a2,a3,a4,a5,a6,a7,a8,a9,a10]))=xs[9]?:=hf 9 _ rfl;rw[c3,abI (by rw[hlen];decide)] at h9;have h9:Td enc W m 3 [a10]=some _:=h9;obtain⟨z0,q0,_,w0⟩:=blA Tryz.underlying3 h0;obtain rfl:a0=.int .i64 z0:=by simpa using q0
   obtain⟨z1,q1,_⟩:=bpR Tryz.underlying9 h1;obtain rfl:a1=.string z1:=by simpa using q1
   obtain⟨z2,q2,_⟩:=bpR Tryz.underlying9 h2;obtain rfl:a2=.string z2:=by simpa using q2
   obtain⟨z3,q3,_,w3⟩:=blA Tryz.underlying3 h3;obtain rfl:a3=.int .i64 z3:=by simpa using q3
   obtain⟨z4,q4,_,w4⟩:=blA Tryz.underlying3 h4;obtain rfl:a4=.int .i64 z4:=by simpa using q4
   obtain⟨z5,q5,_,w5⟩:=blA Tryz.underlying3 h5;obtain rfl:a5=.int .i64 z5:=by simpa using q5
   obtain⟨z6,q6,_,w6⟩:=blA Tryz.underlying3 h6;obtain rfl:a6=.int .i64 z6:=by simpa using q6
   obtain⟨y7,k7,r7⟩:=o26 m _ _ h7;obtain⟨l8,r8,k8,b8⟩:=nJ CW 11 (by decide) (λ_=>rfl) GZ Tryz.underlying27 c29 (λk cs x hk ht=>ih k (by omega) cs x ht) h8;rw[<- MK] at r8;obtain⟨z9,q9,_,w9⟩:=blA Tryz.underlying3 h9;obtain rfl:a10=.int .i64 z9:=by simpa using q9
   exact⟨⟨z0,z1,z2,z3,z4,z5,z6,y7,l8,z9⟩,by rw[GZ];exact⟨k7,b8,(nI.2 k8)⟩,(.cons (.sc rfl) (.cons (.sc rfl) (.cons (.sc rfl) (.cons (.sc rfl) (.cons (.sc rfl) (.cons (.sc rfl) (.cons (.sc rfl) (Cv.append r7 (.cons r8 (.cons (.sc rfl) .nil))))))))))⟩
end
def aLZ{c:Cx}{W:World}{v:Value}{cs:List AV}(hc:cs.length≠1)(h:Cv c W cs v.cells.toList):Rp c W (.agg cs) v:=by
 have hl:=h.len;cases v with
 | agg ws=>exact .agg (by simpa[Value.cells] using h)
 | _=>simp[Value.cells] at hl;omega
end Mo
def own:ownKnob Tryz.prog.godebug=none:=by kernel_rfl
def laidOut:laidOutB Tryz.prog=true:=by kernel_rfl
end Go.Proofs.YtpbkhogolfegfaaGreatDoor
