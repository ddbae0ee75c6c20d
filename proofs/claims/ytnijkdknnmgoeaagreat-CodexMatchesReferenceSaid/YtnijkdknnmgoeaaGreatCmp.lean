/- Part of a proof: see the last text. -/
import Derived.Test.YtnijkdknnmgoeaaGreatCmo
import Derived.Test.YtnijkdknnmgoeaaGreatRows
import Derived.Test.YtnijkdknnmgoeaaGreatChecked
import Derived.ProofKit
import Derived.OpenShut
import Derived.Deep.DeepHandedRow
import Derived.Deep.Slices
set_option linter.unusedVariables false
set_option linter.unusedSimpArgs false
set_option linter.defProp false
noncomputable section
namespace Go.Proofs.YtnijkdknnmgoeaaGreat
open AI Go
namespace Mo
open Go.ChangeShapes Go.WideShapes Go.ChangeAt Go.RowKit
set_option maxRecDepth 100000
set_option maxHeartbeats 4000000
def ae9{z:Int}(h:(Lit.int .i64 z).wf=true):-9223372036854775808<=z/\z<=9223372036854775807:=by
 simp only[Lit.wf,Bool.and_eq_true,decide_eq_true_eq] at h;exact h
def c3:P.cellsOf 3=1:=by kernel_rfl
def c9:P.cellsOf 9=1:=by kernel_rfl
def c22:P.cellsOf 22=1:=by kernel_rfl
def c24:P.cellsOf 24=2:=by kernel_rfl
def c25:P.cellsOf 25=1:=by kernel_rfl
def c27:P.cellsOf 27=11:=by kernel_rfl
def c28:P.cellsOf 28=1:=by kernel_rfl
def c29:P.cellsOf 29=1:=by kernel_rfl
def c31:P.cellsOf 31=3:=by kernel_rfl
def c40:P.cellsOf 40=1:=by kernel_rfl
def c57:P.cellsOf 57=3:=by kernel_rfl
def c58:P.cellsOf 58=1:=by kernel_rfl
def c60:P.cellsOf 60=6:=by kernel_rfl
def c62:P.cellsOf 62=14:=by kernel_rfl
def ap2:P.cellsOf 138=3:=by kernel_rfl
def bP(W:World):Cx:=⟨W.heap.size,[],[],λ_ _=>False⟩
def asO{W:World}{g i:Nat}{v:Value}(h:W.cell? ⟨g,i,none⟩=some v):Pu (bP W) W g i v:=by
 refine⟨World.block_lt_of_cell? W _ h,λhs=>?_,h⟩;rcases hs with hs | ⟨r,n,cap,sz,hr,_⟩ | hs
 cases hs;simp[bP] at hr;exact hs
def stW(W:World):St G (bP W) W s0 :=
 ⟨rfl,trivial,(λi j g h1=>by simp[bP] at h1),(λg hg=>by cases hg),(λid g b h1=>by simp[bP] at h1),rfl,(λr g n cap sz hr=>by simp[bP] at hr),(λr n hr=>by cases hr),(λg hg=>by cases hg),(λg i hb=>hb.elim),(λr r' g n cap sz n' DQ Qc hr=>by simp[bP] at hr),(λg cs hg=>by cases hg),Nat.le_refl _⟩
def abx{w:World}{a:Addr}{v:Value}(h:w.cell? a=some v):a=⟨a.block,a.off,none⟩:=by
 obtain⟨b,o,s⟩:=a;cases s with
 | none=>rfl
 | some x =>
   exfalso;unfold World.cell? at h;split at h<;>simp at h
section
variable {H:Type} {enc:TypeId×Value->H} {W:World}
abbrev Td(enc:TypeId×Value->H)(W:World)(n:Nat)(t:TypeId)(cs:List Value):Option (DataW H×List MemPlace):=DataW.trod enc P W 0 (λ_=>true) true n t cs
def qE{c:Cx}{w:World}{g o:Nat}{xs ys:List AV}(h:Bn c w g o xs)(k:Bn c w g (o+xs.length) ys):Bn c w g o (xs++ys):=by
 induction xs generalizing o with
 | nil=>exact k
 | cons a xs ih =>
   cases h with
   | cons hv h1 t=>exact .cons hv h1 (ih t (by rw[List.length_cons] at k;rwa[show o+1+xs.length=o+(xs.length+1) by omega]))
def Mw{α:Type}(f:α->List AV)(c:Nat)(hc:0 < c)(hf:∀a,(f a).length=c)(ok:α->Prop){ts te:TypeId}(hu:P.underlying ts=some (.slice te))(hce:P.cellsOf te=c){ZQ:Nat}{v:Value}{x:DataW H×List MemPlace}
   (aqP:∀n cs x,n < ZQ->Td enc W n te cs=some x->∃y:α,ok y/\C8 (bP W) W (f y) cs)
   (h:Td enc W ZQ ts [v]=some x):∃l:List α,Rp (bP W) W (.sl .lost l.length (rows f l)) v/\(∀x∈l,ok x)/\l.length<=9223372036854775807:=by
 rcases DataW.trod_slice hu h with ⟨iV,_⟩ | ⟨a,len,cap,atQ,rest,n,hn,iV,_,_,hl,hm,hlen,hel,_,_⟩
 obtain rfl:v=.slice none 0 0:=by simpa using iV
 exact⟨[],.Ln trivial,by simp,by simp⟩;obtain rfl:v=.slice (some a) len cap:=by simpa using iV
 have atX:len<=9223372036854775807:=by unfold maxLen at hm;omega
 have hex:∀i,i < len->∃y:α,ok y/\∃cs,C8 (bP W) W (f y) cs/\cs.length=c/\∀j,j < c->W.cell? (a.add (i*c+j))=cs[j]?:=by
   intro i hi;have QZ:=hel i hi;rw[List.getElem?_eq_getElem (by omega)] at QZ;obtain⟨uY,h1,h2⟩:=Option.bind_eq_some_iff.1 QZ;obtain⟨y,hy,hr⟩:=aqP n uY _ (by omega) h2;rw[hce] at h1;obtain⟨_,Iv,VP⟩:=World.cells?_some h1;refine⟨y,hy,uY,hr,Iv,λj hj=>?_⟩;rw[<- Go.Deep.add_add];exact VP j hj
 by_cases h0:len=0;subst h0;exact⟨[],.Ln trivial,by simp,by simp⟩
 have ha:a=⟨a.block,a.off,none⟩:=by
   obtain⟨y,_,cs,_,Iv,VP⟩:=hex 0 (by omega);have h1:=VP 0 hc;rw[List.getElem?_eq_getElem (by omega)] at h1;have h2:a.add (0*c+0)=a:=by simp[Addr.add]
   rw[h2] at h1;exact abx h1
 have ato:∀k,a.add k=⟨a.block,a.off+k,none⟩:=by
   intro k;rw[ha];unfold Addr.add;split;rename_i hk;subst hk;rfl;rfl
 have key:∀d k,k+d=len->∃l:List α,l.length=d/\(∀x∈l,ok x)/\Bn (bP W) W a.block (a.off+k*c) (rows f l):=by
   intro d
   induction d with
   | zero=>intro k _;exact⟨[],rfl,by simp,.nil⟩
   | succ d ih =>
     intro k hk;obtain⟨y,hy,cs,hr,Iv,VP⟩:=hex k (by omega);obtain⟨l,h1,h2,h3⟩:=ih (k+1) (by omega);refine⟨y::l,by simp[h1],λx hx=>?_,?_⟩;rcases List.mem_cons.1 hx with rfl | hx
     exact hy;exact h2 x hx;rw[HV];refine qE (Bn.Xs hr λj v hv=>?_) ?_;have hj:j < c:=by have:=(List.getElem?_eq_some_iff.1 hv).1;omega
     have:=VP j hj;rw[ato,hv] at this;rw[show a.off+k*c+j=a.off+(k*c+j) by omega];exact asO this;rw[hf y,show a.off+k*c+c=a.off+(k+1)*c by rw[Nat.add_mul];omega];exact h3
 obtain⟨l,h1,h2,h3⟩:=key len 0 (by omega);rw[Nat.zero_mul,Nat.add_zero] at h3;refine⟨l,?_,h2,by omega⟩;rw[ha,h1];exact .Pg hl h3 trivial
def o3(n:Nat)(cs:List Value)(x:DataW H×List MemPlace)(h:Td enc W n 3 cs=some x):∃y:Int,True/\C8 (bP W) W (G8 y) cs:=by
 obtain⟨z,q,_⟩:=DataW.trod_int Tryz.underlying3 h;subst q;exact⟨z,trivial,.cons (.sc rfl) .nil⟩
def o9(n:Nat)(cs:List Value)(x:DataW H×List MemPlace)(h:Td enc W n 9 cs=some x):∃y:ByteArray,True/\C8 (bP W) W (Rk y) cs:=by
 obtain⟨z,q,_⟩:=DataW.trod_string Tryz.underlying9 h;subst q;exact⟨z,trivial,.cons (.sc rfl) .nil⟩
def asj:∀(n:Nat) (cs:List Value) (x:DataW H×List MemPlace),Td enc W n 138 cs=some x->∃y:Pc,aos y/\C8 (bP W) W (Jc y) cs:=by
 intro n cs x h;obtain⟨xs,m,hm,_,hl,hlen,hf⟩:=DataW.trod_struct Tryz.underlying138 h;rw[ap2] at hl
 match cs,hl with
 | [a0,a1,a2],_ =>
   have h0:Td enc W m 3 (List.take (P.cellsOf 3) (List.drop 0 [a0,a1,a2]))=xs[0]?:=hf 0 _ rfl;rw[c3,List.getElem?_eq_getElem (by rw[hlen];decide)] at h0;have h0:Td enc W m 3 [a0]=some _:=h0;have h1:Td enc W m 3 (List.take (P.cellsOf 3) (List.drop 1 [a0,a1,a2]))=xs[1]?:=hf 1 _ rfl;rw[c3,List.getElem?_eq_getElem (by rw[hlen];decide)] at h1;have h1:Td enc W m 3 [a1]=some _:=h1;have h2:Td enc W m 3 (List.take (P.cellsOf 3) (List.drop 2 [a0,a1,a2]))=xs[2]?:=hf 2 _ rfl;rw[c3,List.getElem?_eq_getElem (by rw[hlen];decide)] at h2;have h2:Td enc W m 3 [a2]=some _:=h2;obtain⟨z0,q0,_,w0⟩:=DataW.trod_int Tryz.underlying3 h0;obtain rfl:a0=.int .i64 z0:=by simpa using q0
   obtain⟨z1,q1,_,w1⟩:=DataW.trod_int Tryz.underlying3 h1;obtain rfl:a1=.int .i64 z1:=by simpa using q1
   obtain⟨z2,q2,_,w2⟩:=DataW.trod_int Tryz.underlying3 h2;obtain rfl:a2=.int .i64 z2:=by simpa using q2
   exact⟨⟨z0,z1,z2⟩,⟨(ae9 w0),(ae9 w1),(ae9 w2)⟩,(.cons (.sc rfl) (.cons (.sc rfl) (.cons (.sc rfl) .nil)))⟩
def o24:∀(n:Nat) (cs:List Value) (x:DataW H×List MemPlace),Td enc W n 24 cs=some x->∃y:Fn,af5 y/\C8 (bP W) W (qQ y) cs:=by
 intro n cs x h;obtain⟨xs,m,hm,_,hl,hlen,hf⟩:=DataW.trod_struct Tryz.underlying24 h;rw[c24] at hl
 match cs,hl with
 | [a0,a1],_ =>
   have h0:Td enc W m 3 (List.take (P.cellsOf 3) (List.drop 0 [a0,a1]))=xs[0]?:=hf 0 _ rfl;rw[c3,List.getElem?_eq_getElem (by rw[hlen];decide)] at h0;have h0:Td enc W m 3 [a0]=some _:=h0;have h1:Td enc W m 22 (List.take (P.cellsOf 22) (List.drop 1 [a0,a1]))=xs[1]?:=hf 1 _ rfl;rw[c22,List.getElem?_eq_getElem (by rw[hlen];decide)] at h1;have h1:Td enc W m 22 [a1]=some _:=h1;obtain⟨z0,q0,_,w0⟩:=DataW.trod_int Tryz.underlying3 h0;obtain rfl:a0=.int .i64 z0:=by simpa using q0
   obtain⟨l1,r1,k1,b1⟩:=Mw Jc 3 (by decide) (λ_=>rfl) aos Tryz.underlying22 ap2 (λk cs x hk ht=>asj k cs x ht) h1;exact⟨⟨z0,l1⟩,⟨b1,k1⟩,(.cons (.sc rfl) (.cons r1 .nil))⟩
def o27:∀(n:Nat) (cs:List Value) (x:DataW H×List MemPlace),Td enc W n 27 cs=some x->∃y:Nd,Iu y/\C8 (bP W) W (Dq y) cs:=by
 intro n
 induction n using Nat.strongRecOn with
 | _ n ih =>
 intro cs x h;obtain⟨xs,m,hm,_,hl,hlen,hf⟩:=DataW.trod_struct Tryz.underlying27 h;rw[c27] at hl
 match cs,hl with
 | [a0,a1,a2,a3,a4,a5,a6,a7,a8,a9,eA],_ =>
   have h0:Td enc W m 3 (List.take (P.cellsOf 3) (List.drop 0 [a0,a1,a2,a3,a4,a5,a6,a7,a8,a9,eA]))=xs[0]?:=hf 0 _ rfl;rw[c3,List.getElem?_eq_getElem (by rw[hlen];decide)] at h0;have h0:Td enc W m 3 [a0]=some _:=h0;have h1:Td enc W m 9 (List.take (P.cellsOf 9) (List.drop 1 [a0,a1,a2,a3,a4,a5,a6,a7,a8,a9,eA]))=xs[1]?:=hf 1 _ rfl;rw[c9,List.getElem?_eq_getElem (by rw[hlen];decide)] at h1;have h1:Td enc W m 9 [a1]=some _:=h1;have h2:Td enc W m 9 (List.take (P.cellsOf 9) (List.drop 2 [a0,a1,a2,a3,a4,a5,a6,a7,a8,a9,eA]))=xs[2]?:=hf 2 _ rfl;rw[c9,List.getElem?_eq_getElem (by rw[hlen];decide)] at h2;have h2:Td enc W m 9 [a2]=some _:=h2;have h3:Td enc W m 3 (List.take (P.cellsOf 3) (List.drop 3 [a0,a1,a2,a3,a4,a5,a6,a7,a8,a9,eA]))=xs[3]?:=hf 3 _ rfl;rw[c3,List.getElem?_eq_getElem (by rw[hlen];decide)] at h3;have h3:Td enc W m 3 [a3]=some _:=h3;have h4:Td enc W m 3 (List.take (P.cellsOf 3) (List.drop 4 [a0,a1,a2,a3,a4,a5,a6,a7,a8,a9,eA]))=xs[4]?:=hf 4 _ rfl;rw[c3,List.getElem?_eq_getElem (by rw[hlen];decide)] at h4;have h4:Td enc W m 3 [a4]=some _:=h4;have h5:Td enc W m 3 (List.take (P.cellsOf 3) (List.drop 5 [a0,a1,a2,a3,a4,a5,a6,a7,a8,a9,eA]))=xs[5]?:=hf 5 _ rfl;rw[c3,List.getElem?_eq_getElem (by rw[hlen];decide)] at h5;have h5:Td enc W m 3 [a5]=some _:=h5;have h6:Td enc W m 3 (List.take (P.cellsOf 3) (List.drop 6 [a0,a1,a2,a3,a4,a5,a6,a7,a8,a9,eA]))=xs[6]?:=hf 6 _ rfl;rw[c3,List.getElem?_eq_getElem (by rw[hlen];decide)] at h6;have h6:Td enc W m 3 [a6]=some _:=h6;have h7:Td enc W m 24 (List.take (P.cellsOf 24) (List.drop 7 [a0,a1,a2,a3,a4,a5,a6,a7,a8,a9,eA]))=xs[7]?:=hf 7 _ rfl;rw[c24,List.getElem?_eq_getElem (by rw[hlen];decide)] at h7;have h7:Td enc W m 24 [a7,a8]=some _:=h7;have h8:Td enc W m 25 (List.take (P.cellsOf 25) (List.drop 9 [a0,a1,a2,a3,a4,a5,a6,a7,a8,a9,eA]))=xs[8]?:=hf 8 _ rfl;rw[c25,List.getElem?_eq_getElem (by rw[hlen];decide)] at h8;have h8:Td enc W m 25 [a9]=some _:=h8;have h9:Td enc W m 3 (List.take (P.cellsOf 3) (List.drop 10 [a0,a1,a2,a3,a4,a5,a6,a7,a8,a9,eA]))=xs[9]?:=hf 9 _ rfl;rw[c3,List.getElem?_eq_getElem (by rw[hlen];decide)] at h9;have h9:Td enc W m 3 [eA]=some _:=h9;obtain⟨z0,q0,_,w0⟩:=DataW.trod_int Tryz.underlying3 h0;obtain rfl:a0=.int .i64 z0:=by simpa using q0
   obtain⟨z1,q1,_⟩:=DataW.trod_string Tryz.underlying9 h1;obtain rfl:a1=.string z1:=by simpa using q1
   obtain⟨z2,q2,_⟩:=DataW.trod_string Tryz.underlying9 h2;obtain rfl:a2=.string z2:=by simpa using q2
   obtain⟨z3,q3,_,w3⟩:=DataW.trod_int Tryz.underlying3 h3;obtain rfl:a3=.int .i64 z3:=by simpa using q3
   obtain⟨z4,q4,_,w4⟩:=DataW.trod_int Tryz.underlying3 h4;obtain rfl:a4=.int .i64 z4:=by simpa using q4
   obtain⟨z5,q5,_,w5⟩:=DataW.trod_int Tryz.underlying3 h5;obtain rfl:a5=.int .i64 z5:=by simpa using q5
   obtain⟨z6,q6,_,w6⟩:=DataW.trod_int Tryz.underlying3 h6;obtain rfl:a6=.int .i64 z6:=by simpa using q6
   obtain⟨y7,k7,r7⟩:=o24 m _ _ h7;obtain⟨l8,r8,k8,b8⟩:=Mw Dq 11 (by decide) (λ_=>rfl) Iu Tryz.underlying25 c27 (λk cs x hk ht=>ih k (by omega) cs x ht) h8;rw[<- aaM] at r8;obtain⟨z9,q9,_,w9⟩:=DataW.trod_int Tryz.underlying3 h9;obtain rfl:eA=.int .i64 z9:=by simpa using q9
   exact⟨⟨z0,z1,z2,z3,z4,z5,z6,y7,l8,z9⟩,by rw[Iu];exact⟨k7,b8,(lT.2 k8)⟩,(.cons (.sc rfl) (.cons (.sc rfl) (.cons (.sc rfl) (.cons (.sc rfl) (.cons (.sc rfl) (.cons (.sc rfl) (.cons (.sc rfl) (C8.append r7 (.cons r8 (.cons (.sc rfl) .nil))))))))))⟩
def o57:∀(n:Nat) (cs:List Value) (x:DataW H×List MemPlace),Td enc W n 57 cs=some x->∃y:Dc,amT y/\C8 (bP W) W (Dk y) cs:=by
 intro n cs x h;obtain⟨xs,m,hm,_,hl,hlen,hf⟩:=DataW.trod_struct Tryz.underlying57 h;rw[c57] at hl
 match cs,hl with
 | [a0,a1,a2],_ =>
   have h0:Td enc W m 9 (List.take (P.cellsOf 9) (List.drop 0 [a0,a1,a2]))=xs[0]?:=hf 0 _ rfl;rw[c9,List.getElem?_eq_getElem (by rw[hlen];decide)] at h0;have h0:Td enc W m 9 [a0]=some _:=h0;have h1:Td enc W m 9 (List.take (P.cellsOf 9) (List.drop 1 [a0,a1,a2]))=xs[1]?:=hf 1 _ rfl;rw[c9,List.getElem?_eq_getElem (by rw[hlen];decide)] at h1;have h1:Td enc W m 9 [a1]=some _:=h1;have h2:Td enc W m 3 (List.take (P.cellsOf 3) (List.drop 2 [a0,a1,a2]))=xs[2]?:=hf 2 _ rfl;rw[c3,List.getElem?_eq_getElem (by rw[hlen];decide)] at h2;have h2:Td enc W m 3 [a2]=some _:=h2;obtain⟨z0,q0,_⟩:=DataW.trod_string Tryz.underlying9 h0;obtain rfl:a0=.string z0:=by simpa using q0
   obtain⟨z1,q1,_⟩:=DataW.trod_string Tryz.underlying9 h1;obtain rfl:a1=.string z1:=by simpa using q1
   obtain⟨z2,q2,_,w2⟩:=DataW.trod_int Tryz.underlying3 h2;obtain rfl:a2=.int .i64 z2:=by simpa using q2
   exact⟨⟨z0,z1,z2⟩,trivial,(.cons (.sc rfl) (.cons (.sc rfl) (.cons (.sc rfl) .nil)))⟩
def o60:∀(n:Nat) (cs:List Value) (x:DataW H×List MemPlace),Td enc W n 60 cs=some x->∃y:Ex,jU y/\C8 (bP W) W (Fp y) cs:=by
 intro n
 induction n using Nat.strongRecOn with
 | _ n ih =>
 intro cs x h;obtain⟨xs,m,hm,_,hl,hlen,hf⟩:=DataW.trod_struct Tryz.underlying60 h;rw[c60] at hl
 match cs,hl with
 | [a0,a1,a2,a3,a4,a5],_ =>
   have h0:Td enc W m 3 (List.take (P.cellsOf 3) (List.drop 0 [a0,a1,a2,a3,a4,a5]))=xs[0]?:=hf 0 _ rfl;rw[c3,List.getElem?_eq_getElem (by rw[hlen];decide)] at h0;have h0:Td enc W m 3 [a0]=some _:=h0;have h1:Td enc W m 3 (List.take (P.cellsOf 3) (List.drop 1 [a0,a1,a2,a3,a4,a5]))=xs[1]?:=hf 1 _ rfl;rw[c3,List.getElem?_eq_getElem (by rw[hlen];decide)] at h1;have h1:Td enc W m 3 [a1]=some _:=h1;have h2:Td enc W m 9 (List.take (P.cellsOf 9) (List.drop 2 [a0,a1,a2,a3,a4,a5]))=xs[2]?:=hf 2 _ rfl;rw[c9,List.getElem?_eq_getElem (by rw[hlen];decide)] at h2;have h2:Td enc W m 9 [a2]=some _:=h2;have h3:Td enc W m 24 (List.take (P.cellsOf 24) (List.drop 3 [a0,a1,a2,a3,a4,a5]))=xs[3]?:=hf 3 _ rfl;rw[c24,List.getElem?_eq_getElem (by rw[hlen];decide)] at h3;have h3:Td enc W m 24 [a3,a4]=some _:=h3;have h4:Td enc W m 58 (List.take (P.cellsOf 58) (List.drop 5 [a0,a1,a2,a3,a4,a5]))=xs[4]?:=hf 4 _ rfl;rw[c58,List.getElem?_eq_getElem (by rw[hlen];decide)] at h4;have h4:Td enc W m 58 [a5]=some _:=h4;obtain⟨z0,q0,_,w0⟩:=DataW.trod_int Tryz.underlying3 h0;obtain rfl:a0=.int .i64 z0:=by simpa using q0
   obtain⟨z1,q1,_,w1⟩:=DataW.trod_int Tryz.underlying3 h1;obtain rfl:a1=.int .i64 z1:=by simpa using q1
   obtain⟨z2,q2,_⟩:=DataW.trod_string Tryz.underlying9 h2;obtain rfl:a2=.string z2:=by simpa using q2
   obtain⟨y3,k3,r3⟩:=o24 m _ _ h3;obtain⟨l4,r4,k4,b4⟩:=Mw Fp 6 (by decide) (λ_=>rfl) jU Tryz.underlying58 c60 (λk cs x hk ht=>ih k (by omega) cs x ht) h4;rw[<- nM] at r4;exact⟨⟨z0,z1,z2,y3,l4⟩,by rw[jU];exact⟨k3,b4,(abM.2 k4)⟩,(.cons (.sc rfl) (.cons (.sc rfl) (.cons (.sc rfl) (C8.append r3 (.cons r4 .nil)))))⟩
def o62:∀(n:Nat) (cs:List Value) (x:DataW H×List MemPlace),Td enc W n 62 cs=some x->∃y:Ar,aor y/\C8 (bP W) W (It y) cs:=by
 intro n cs x h;obtain⟨xs,m,hm,_,hl,hlen,hf⟩:=DataW.trod_struct Tryz.underlying62 h;rw[c62] at hl
 match cs,hl with
 | [a0,a1,a2,a3,a4,a5,a6,a7,a8,a9,eA,a11,a12,a13],_ =>
   have h0:Td enc W m 3 (List.take (P.cellsOf 3) (List.drop 0 [a0,a1,a2,a3,a4,a5,a6,a7,a8,a9,eA,a11,a12,a13]))=xs[0]?:=hf 0 _ rfl;rw[c3,List.getElem?_eq_getElem (by rw[hlen];decide)] at h0;have h0:Td enc W m 3 [a0]=some _:=h0;have h1:Td enc W m 3 (List.take (P.cellsOf 3) (List.drop 1 [a0,a1,a2,a3,a4,a5,a6,a7,a8,a9,eA,a11,a12,a13]))=xs[1]?:=hf 1 _ rfl;rw[c3,List.getElem?_eq_getElem (by rw[hlen];decide)] at h1;have h1:Td enc W m 3 [a1]=some _:=h1;have h2:Td enc W m 3 (List.take (P.cellsOf 3) (List.drop 2 [a0,a1,a2,a3,a4,a5,a6,a7,a8,a9,eA,a11,a12,a13]))=xs[2]?:=hf 2 _ rfl;rw[c3,List.getElem?_eq_getElem (by rw[hlen];decide)] at h2;have h2:Td enc W m 3 [a2]=some _:=h2;have h3:Td enc W m 3 (List.take (P.cellsOf 3) (List.drop 3 [a0,a1,a2,a3,a4,a5,a6,a7,a8,a9,eA,a11,a12,a13]))=xs[3]?:=hf 3 _ rfl;rw[c3,List.getElem?_eq_getElem (by rw[hlen];decide)] at h3;have h3:Td enc W m 3 [a3]=some _:=h3;have h4:Td enc W m 3 (List.take (P.cellsOf 3) (List.drop 4 [a0,a1,a2,a3,a4,a5,a6,a7,a8,a9,eA,a11,a12,a13]))=xs[4]?:=hf 4 _ rfl;rw[c3,List.getElem?_eq_getElem (by rw[hlen];decide)] at h4;have h4:Td enc W m 3 [a4]=some _:=h4;have h5:Td enc W m 3 (List.take (P.cellsOf 3) (List.drop 5 [a0,a1,a2,a3,a4,a5,a6,a7,a8,a9,eA,a11,a12,a13]))=xs[5]?:=hf 5 _ rfl;rw[c3,List.getElem?_eq_getElem (by rw[hlen];decide)] at h5;have h5:Td enc W m 3 [a5]=some _:=h5;have h6:Td enc W m 58 (List.take (P.cellsOf 58) (List.drop 6 [a0,a1,a2,a3,a4,a5,a6,a7,a8,a9,eA,a11,a12,a13]))=xs[6]?:=hf 6 _ rfl;rw[c58,List.getElem?_eq_getElem (by rw[hlen];decide)] at h6;have h6:Td enc W m 58 [a6]=some _:=h6;have h7:Td enc W m 40 (List.take (P.cellsOf 40) (List.drop 7 [a0,a1,a2,a3,a4,a5,a6,a7,a8,a9,eA,a11,a12,a13]))=xs[7]?:=hf 7 _ rfl;rw[c40,List.getElem?_eq_getElem (by rw[hlen];decide)] at h7;have h7:Td enc W m 40 [a7]=some _:=h7;have h8:Td enc W m 60 (List.take (P.cellsOf 60) (List.drop 8 [a0,a1,a2,a3,a4,a5,a6,a7,a8,a9,eA,a11,a12,a13]))=xs[8]?:=hf 8 _ rfl;rw[c60,List.getElem?_eq_getElem (by rw[hlen];decide)] at h8;have h8:Td enc W m 60 [a8,a9,eA,a11,a12,a13]=some _:=h8;obtain⟨z0,q0,_,w0⟩:=DataW.trod_int Tryz.underlying3 h0;obtain rfl:a0=.int .i64 z0:=by simpa using q0
   obtain⟨z1,q1,_,w1⟩:=DataW.trod_int Tryz.underlying3 h1;obtain rfl:a1=.int .i64 z1:=by simpa using q1
   obtain⟨z2,q2,_,w2⟩:=DataW.trod_int Tryz.underlying3 h2;obtain rfl:a2=.int .i64 z2:=by simpa using q2
   obtain⟨z3,q3,_,w3⟩:=DataW.trod_int Tryz.underlying3 h3;obtain rfl:a3=.int .i64 z3:=by simpa using q3
   obtain⟨z4,q4,_,w4⟩:=DataW.trod_int Tryz.underlying3 h4;obtain rfl:a4=.int .i64 z4:=by simpa using q4
   obtain⟨z5,q5,_,w5⟩:=DataW.trod_int Tryz.underlying3 h5;obtain rfl:a5=.int .i64 z5:=by simpa using q5
   obtain⟨l6,r6,k6,b6⟩:=Mw Fp 6 (by decide) (λ_=>rfl) jU Tryz.underlying58 c60 (λk cs x hk ht=>o60 k cs x ht) h6;rw[<- nM] at r6;obtain⟨l7,r7,k7,b7⟩:=Mw G8 1 (by decide) (λ_=>rfl) (λ_=>True) Tryz.underlying40 c3 (λk cs x hk ht=>o3 k cs x ht) h7;obtain⟨y8,k8,r8⟩:=o60 m _ _ h8;exact⟨⟨z0,z1,z2,z3,z4,z5,l6,l7,y8⟩,⟨b6,k6,b7,k8⟩,(.cons (.sc rfl) (.cons (.sc rfl) (.cons (.sc rfl) (.cons (.sc rfl) (.cons (.sc rfl) (.cons (.sc rfl) (.cons r6 (.cons r7 (C8.append r8 .nil)))))))))⟩
def o31:∀(n:Nat) (cs:List Value) (x:DataW H×List MemPlace),Td enc W n 31 cs=some x->∃y:Co,aiC y/\C8 (bP W) W (Ko y) cs:=by
 intro n cs x h;obtain⟨xs,m,hm,_,hl,hlen,hf⟩:=DataW.trod_struct Tryz.underlying31 h;rw[c31] at hl
 match cs,hl with
 | [a0,a1,a2],_ =>
   have h0:Td enc W m 28 (List.take (P.cellsOf 28) (List.drop 0 [a0,a1,a2]))=xs[0]?:=hf 0 _ rfl;rw[c28,List.getElem?_eq_getElem (by rw[hlen];decide)] at h0;have h0:Td enc W m 28 [a0]=some _:=h0;have h1:Td enc W m 28 (List.take (P.cellsOf 28) (List.drop 1 [a0,a1,a2]))=xs[1]?:=hf 1 _ rfl;rw[c28,List.getElem?_eq_getElem (by rw[hlen];decide)] at h1;have h1:Td enc W m 28 [a1]=some _:=h1;have h2:Td enc W m 29 (List.take (P.cellsOf 29) (List.drop 2 [a0,a1,a2]))=xs[2]?:=hf 2 _ rfl;rw[c29,List.getElem?_eq_getElem (by rw[hlen];decide)] at h2;have h2:Td enc W m 29 [a2]=some _:=h2;obtain⟨l0,r0,k0,b0⟩:=Mw Dk 3 (by decide) (λ_=>rfl) amT Tryz.underlying28 c57 (λk cs x hk ht=>o57 k cs x ht) h0;obtain⟨l1,r1,k1,b1⟩:=Mw Dk 3 (by decide) (λ_=>rfl) amT Tryz.underlying28 c57 (λk cs x hk ht=>o57 k cs x ht) h1;obtain⟨l2,r2,k2,b2⟩:=Mw It 14 (by decide) (λ_=>rfl) aor Tryz.underlying29 c62 (λk cs x hk ht=>o62 k cs x ht) h2;exact⟨⟨l0,l1,l2⟩,⟨b0,b1,b2,k2⟩,(.cons r0 (.cons r1 (.cons r2 .nil)))⟩
end
def aeb{c:Cx}{W:World}{v:Value}{cs:List AV}(hc:cs.length≠1)(h:C8 c W cs v.cells.toList):Rp c W (.agg cs) v:=by
 have hl:=h.len;cases v with
 | agg ws=>exact .agg (by simpa[Value.cells] using h)
 | _=>simp[Value.cells] at hl;omega
def acw{f:FuncId}{args:List AV}{vs:List Value}{W:World}(h:Pure P G f args (.sc (.bool true)))(ha:C8 (bP W) W args vs):Calls P f vs.toArray W λe W'=>e=.returned (.bool true)/\Below W.heap.size W W':=by
 refine(h s0 (bP W) W vs (stW W) ha).mono ?_;rintro e w' ⟨c',hx,_,u,rfl,hu⟩;cases hu;exact⟨rfl,hx.below⟩
end Mo
def own:ownKnob Tryz.prog.godebug=none:=by kernel_rfl
def laidOut:laidOutB Tryz.prog=true:=by kernel_rfl
end Go.Proofs.YtnijkdknnmgoeaaGreat
