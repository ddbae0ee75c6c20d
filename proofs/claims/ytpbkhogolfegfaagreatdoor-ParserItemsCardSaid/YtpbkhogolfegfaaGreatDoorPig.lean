/- Part of a proof: see the last text. -/
import Derived.Test.YtpbkhogolfegfaaGreatDoorPif
import Derived.Laws.StructEq
set_option linter.unusedVariables false
set_option linter.unusedSimpArgs false
set_option linter.defProp false
noncomputable section
namespace AI
open Go Go.RowKit
inductive Wn:List AV->List AV->Prop where
 | nil:Wn [] []
 | r {a:AV} {l k:List AV} (t:Wn l k):Wn (a::l) (a::k)
 | s {o:Own} {n:Nat} {cs ds l k:List AV} (h:cs=ds) (t:Wn l k):Wn (.sl o n cs::l) (.sl .lost n ds::k)
 | d {o:Own} {n:Nat} {cs ds es l k:List AV} (h:Wn cs ds) (e:ds=es) (t:Wn l k):Wn (.sl o n cs::l) (.sl .lost n es::k)
 | g {cs ds l k:List AV} (h:Wn cs ds) (t:Wn l k):Wn (.agg cs::l) (.agg ds::k)
 | u {cs ds l k:List AV} (h:Wn cs ds) (t:Wn l k):Wn (.C6 cs::l) (.C6 ds::k)
def Wn.refl:∀l:List AV,Wn l l
 | []=>.nil
 | _::l=>.r (Wn.refl l)
def Wn.len{l k:List AV}(h:Wn l k):l.length=k.length:=by
 induction h with
 | nil=>rfl
 | r _ ih=>simp[ih]
 | s _ _ ih=>simp[ih]
 | d _ _ _ _ ih=>simp[ih]
 | g _ _ _ ih=>simp[ih]
 | u _ _ _ ih=>simp[ih]
section
variable {c:Cx} {w:World}
mutual
def Wn.ok:∀{l k:List AV},Wn l k->∀{vs:List Value},CY c w l vs->CY c w k vs
 | _,_,.nil,_,hr=>hr
 | _,_,.r t,_,hr=>by cases hr with | cons h1 t1=>exact .cons h1 (t.ok t1)
 | _,_,.s h t,_,hr=>by
   subst h;cases hr with
   | cons h1 t1 =>
     refine .cons ?_ (t.ok t1);cases h1 with
     | KA _=>exact .KA trivial
     | No hn hc ho=>exact .No hn hc trivial
 | _,_,.d h e t,_,hr=>by
   subst e;cases hr with
   | cons h1 t1 =>
     refine .cons ?_ (t.ok t1);cases h1 with
     | KA _=>cases h;exact .KA trivial
     | No hn hc ho=>exact .No hn (h.okC hc) trivial
 | _,_,.g h t,_,hr=>by
   cases hr with
   | cons h1 t1 =>
     refine .cons ?_ (t.ok t1);cases h1 with
     | agg h2=>exact .agg (h.ok h2)
 | _,_,.u h t,_,hr=>by
   cases hr with
   | cons h1 t1 =>
     refine .cons ?_ (t.ok t1);cases h1 with
     | C6 h2=>exact .C6 (h.ok h2)
def Wn.okC:∀{l k:List AV},Wn l k->∀{g o:Nat},Bk c w g o l->Bk c w g o k
 | _,_,.nil,_,_,hr=>hr
 | _,_,.r t,_,_,hr=>by cases hr with | cons hv h1 t1=>exact .cons hv h1 (t.okC t1)
 | _,_,.s h t,_,_,hr=>by
   subst h;cases hr with
   | cons hv h1 t1 =>
     refine .cons hv ?_ (t.okC t1);cases h1 with
     | KA _=>exact .KA trivial
     | No hn hc ho=>exact .No hn hc trivial
 | _,_,.d h e t,_,_,hr=>by
   subst e;cases hr with
   | cons hv h1 t1 =>
     refine .cons hv ?_ (t.okC t1);cases h1 with
     | KA _=>cases h;exact .KA trivial
     | No hn hc ho=>exact .No hn (h.okC hc) trivial
 | _,_,.g h t,_,_,hr=>by
   cases hr with
   | cons hv h1 t1 =>
     refine .cons hv ?_ (t.okC t1);cases h1 with
     | agg h2=>exact .agg (h.ok h2)
 | _,_,.u h t,_,_,hr=>by
   cases hr with
   | cons hv h1 t1 =>
     refine .cons hv ?_ (t.okC t1);cases h1 with
     | C6 h2=>exact .C6 (h.ok h2)
end
end
def Wn.WK{a b c d:List AV}(h:Wn a b)(k:Wn c d):Wn (a++c) (b++d):=by
 induction a generalizing b with
 | nil=>cases h;exact k
 | cons x a ih =>
   cases h with
   | r t=>exact .r (ih t)
   | s h t=>exact .s h (ih t)
   | d h e t=>exact .d h e (ih t)
   | g h t=>exact .g h (ih t)
   | u h t=>exact .u h (ih t)
def Rp.wnC{c:Cx}{w:World}{o:Own}{q:Nat}{cs ds:List AV}{u:Value}(h:Wn cs ds)(hr:Rp c w (.sl o q cs) u):Rp c w (.sl o q ds) u:=by
 cases hr with
 | KA h0=>cases h;exact .KA h0
 | No hn hc ho=>exact .No hn (h.okC hc) (by rw[<- h.len];exact ho)
def Fits.wn{n m:Nat}{a b:AV}(h:Wn [a] [b])(hp:AI.plain b=true):Fits n m a b:=λc w v hr=>by
 have:=h.ok (.cons hr .nil);cases this with
 | cons h1 _=>exact Fits.plain hp c w v h1
section
variable {P:Program} {G:Bc}
def CQ(hm:P.follows .mixedOrders=true)(hG:∀g cs,G g=some cs->BN cs=true){f:FuncId}{args:List AV}{v:AV}(h:WC P G (XS P G) H0 f args s0 (λr _=>∃a,r=.ret a/\Fits 0 0 a v))(hp:BN args=true)(hv:plain v=true):Pure P G f args v:=by
 obtain⟨r,s',hj,a,rfl,hf⟩:=h;have hS:=sound (T7 hm) hj;intro s cx w vs hs II
 have NH:∀g i x,P3 cx w g i x->P3 ⟨w.heap.size,[],[],cx.yH⟩ w g i x:=by
   intro g i x hx;refine⟨hx.1,λKr=>?_,hx.2.2⟩;rcases Kr with Kr | ⟨r,n,cap,sz,hr,_⟩ | Kr
   cases Kr;simp at hr;exact hx.2.1 Kr
 have Gz:St G ⟨w.heap.size,[],[],cx.yH⟩ w s0 :=
   ⟨rfl,trivial,(λi j g h1=>by simp at h1),(λg hg=>by cases hg),(λid g b h1=>by simp at h1),rfl,(λr g n cap sz hr=>by simp at hr),(λr n hr=>by cases hr),(λg hg=>by cases hg),(λg i hb=>hs.hH hb),(λr r' g n cap sz n' CC P5 hr=>by simp at hr),(λg cs hg=>Bk.plain NH (hG g cs hg) (hs.PH g cs hg)),Nat.le_refl _⟩
 refine(hS _ w vs Gz (CY.plain NH hp II)).mono ?_;rintro e w' ⟨c',hx,_,u,rfl,hu⟩;have aE:=hx.below;obtain⟨x2,XW⟩:=hs.same (w':=w') ⟨aE.os,aE.tape,aE.output,aE.size,λk hk _=>aE.block k hk⟩;refine⟨cx,x2,XW,u,rfl,Rp.plain (c:=c'.upto 0 0) (λg i x hvv=>⟨hvv.1,λKr=>hvv.2.1 (.inr (.inr ?_)),hvv.2.2⟩) hv (hf _ _ _ hu)⟩;show c'.bad g i;rw[hx.bad];exact Kr
def KD(P:Program)(fn:Func)(m:Nat)(Q:AX->List AV->AS->Prop)(v:AV):Prop:=∀a s2,Fits 0 0 a v->Sg P fn m Q a s2
def KD.body{fn:Func}{m:Nat}{v:AV}:KD P fn m (U1 P fn m (λr _=>∃a,r=.ret a/\Fits 0 0 a v)) v:=λa _ h=>.body ⟨a,rfl,h⟩
def KD.outer{fn:Func}{m id:Nat}{ks:List KI}{Q:AX->List AV->AS->Prop}{v:AV}(h:KD P fn m Q v):KD P fn m (ET id (Ej P G ks Q)) v:=λa s2 hf=>(h a s2 hf).outer
def Tv{δ J:Type}(Q:AX->List AV->AS->Prop)(id:Nat)(F:δ->J->List AV)(S:δ->J->AS)(Ok:J->Prop)(d:δ):Prop:=∀j,Ok j->Q (.exit id) (F d j) (S d j)
def agn(P:Program)(fn:Func):HR->Option (List Cd×AV)
 | some (.fin .ret,[],cd,fr,s)=>(match JO P s fn fr with
   | some v=>some (cd,v)
   | none=>none)
 | _=>none
def AA{r:HR}{X:Prop}{Q:AX->List AV->AS->Prop}{v w:AV}(fn:Func)(m:Nat){l:List (PC P G)}(R:VX P G l Q r X)(h:agn P fn r=some (n6 l,v))(k:KD P fn m Q w)(hf:Fits 0 0 v w):X:=by
 unfold agn at h;split at h;rename_i cd Cp s';split at h;rename_i v' hv;simp only[Option.some.injEq,Prod.mk.injEq] at h;obtain⟨rfl,rfl⟩:=h;exact R _ _ _ _ rfl (PO l) (k _ _ hf _ _ hv rfl);cases h;cases h
def KD.Gi{fn:Func}{m:Nat}{L:Code}{s0:AS}{Q:AX->List AV->AS->Prop}{v:AV}(h:KD P fn m Q v):KD P fn m (Uv P G L s0 Q) v:=h
def Ma{δ ρ β:Type}(k:δ->Option β)(kr:ρ->Option β):δ⊕ρ->Option β
 | .inl d=>k d
 | .inr v=>kr v
def pk:PC P G:=⟨.k,[],trivial⟩
def pb{B b:Bool}(h:B=b):PC P G:=⟨.b b,[.eqb B b],⟨h,trivial⟩⟩
def pn{B b:Bool}(h:B=b):PC P G:=⟨.b (!b),[.eqb (!B) (!b)],⟨by show(!B)=(!b);rw[h],trivial⟩⟩
def akk{i:Nat}(h:i < 9223372036854775807):Ny .i64 (aak ((i:Nat):Int) 1)=((i+1:Nat):Int):=by
 rw[VN,dU];have:=ad8 (i:=i+1) (by omega);rw[<- this];rfl
def aqK(i:Nat)(h:i < 9223372036854775807):PC P G:=⟨.i ((i+1:Nat):Int),[.eqi (Ny .i64 (aak ((i:Nat):Int) 1)) ((i+1:Nat):Int)],⟨akk h,trivial⟩⟩
def AG{f:FuncId}{args:List AV}{v:AV}(h:Pure P G f args v):PC P G:=⟨.w v,[.pur f args v],⟨h,trivial⟩⟩
def GW{f:FuncId}{args WO:List AV}{v:AV}(w:Wn args WO)(h:Pure P G f WO v):PC P G:=⟨.w v,[.pur f args v],⟨λs cx wd vs hs ha=>h s cx wd vs hs (w.ok ha),trivial⟩⟩
def Jw{t:TypeId}{a b v:AV}(h:DB P t a b=some v):PC P G:=⟨.w v,[.idx t a b v],⟨h,trivial⟩⟩
def SL{t:TypeId}{a b v:AV}(h:Lx P t a b=some v):PC P G:=⟨.w v,[.ix t a b v],⟨h,trivial⟩⟩
def NQ{op:BinOp}{t:TypeId}{x y:Operand}{a b v:AV}(h:L2 P op t x y a b=some v):PC P G:=⟨.w v,[.bin op t x y a b v],⟨h,trivial⟩⟩
def O3{t:TypeId}{a:AV}{l h m:Option AV}{v:AV}(e:Md P t a l h m=some v):PC P G:=⟨.o v,[.sli t a l h m v],⟨e,trivial⟩⟩
def Bt(a b:Int):Int:=Ny .i64 (aak a b)
def L6(a b:Int):Int:=Ny .i64 (hO a b)
def BQ(a b:Int):Int:=Ny .i64 (a*b)
def HU{α:Type}(l:List α)(z:Int):Option α:=if 0<=z then l[z.toNat]? else none
structure RI{α:Type}(f:α->List AV)(C:List α->List AV)(k:Nat):Prop where
 eq:∀l,C l=rows f l
 len:∀x,(f x).length=k
 pl:∀x,BN (f x)=true
def RI.WK{α:Type}{f:α->List AV}{C:List α->List AV}{k:Nat}(h:RI f C k)(l m:List α):C (l++m)=C l++C m:=by rw[h.eq,h.eq,h.eq,W9]
def RI.cons{α:Type}{f:α->List AV}{C:List α->List AV}{k:Nat}(h:RI f C k)(x:α)(m:List α):C (x::m)=f x++C m:=by rw[h.eq,h.eq,I9]
def RI.A1{α:Type}{f:α->List AV}{C:List α->List AV}{k:Nat}(h:RI f C k)(l:List α):BN (C l)=true:=by rw[h.eq];exact qV λx _=>h.pl x
def RI.KJ{α:Type}{f:α->List AV}{C:List α->List AV}{k:Nat}(h:RI f C k)(l:List α):plain (.sl .lost l.length (C l))=true:=by simp only[plain,h.A1];rfl
def RI.Cs{α:Type}{f:α->List AV}{C:List α->List AV}{k:Nat}(h:RI f C k)(x:α):plain (.agg (f x))=true:=h.pl x
def RI.ix{α:Type}{f:α->List AV}{C:List α->List AV}{k:Nat}(h:RI f C k){t elem:TypeId}(hu:P.underlying t=some (.slice elem))(hs:(P.info? elem).map (·.size)=some k)(own:Own){l:List α}{i:Nat}{x:α}(hx:l[i]?=some x):DB P t (.sl own l.length (C l)) (.sc (.int .i64 ((i:Nat):Int)))=some (.el (f x++C (l.drop (i+1)))):=by
 cases hi:P.info? elem with
 | none=>rw[hi] at hs;cases hs
 | some e =>
   rw[hi] at hs;rw[h.eq,h.eq];exact pV hu hi (by simpa using hs) h.len hx
def RI.ixz{α:Type}{f:α->List AV}{C:List α->List AV}{k:Nat}(h:RI f C k){t elem:TypeId}(hu:P.underlying t=some (.slice elem))(hs:(P.info? elem).map (·.size)=some k)(own:Own){l:List α}{z:Int}{x:α}(hx:HU l z=some x):DB P t (.sl own l.length (C l)) (.sc (.int .i64 z))=some (.el (f x++C (l.drop (z.toNat+1)))):=by
 unfold HU at hx;split at hx;rename_i hz;have:=h.ix hu hs own hx;rwa[Int.toNat_of_nonneg hz] at this;cases hx
def RI.wn{α:Type}{f:α->List AV}{C:List α->List AV}{k:Nat}(h:RI f C k)(m:List α){a:List AV}(w:Wn a (rows f m)):Wn a (C m):=by rw[h.eq];exact w
def Xa{α:Type}{f:α->List AV}{k:Nat}(hf:∀x,(f x).length=k)(l:List α)(i:Nat):(rows f l).drop (i*k)=rows f (l.drop i):=by
 induction l generalizing i with
 | nil=>simp[rows]
 | cons x l ih =>
   cases i with
   | zero=>simp
   | succ i =>
     rw[I9,List.drop_append,hf x,List.drop_eq_nil_of_le (by rw[hf x,Nat.add_mul];omega),List.nil_append,List.drop_succ_cons,<- ih i];congr 1;rw[Nat.add_mul];omega
def Xb{α:Type}{f:α->List AV}{k:Nat}(hf:∀x,(f x).length=k)(l:List α)(i:Nat):(rows f l).take (i*k)=rows f (l.take i):=by
 induction l generalizing i with
 | nil=>simp[rows]
 | cons x l ih =>
   cases i with
   | zero=>simp[rows]
   | succ i =>
     rw[I9,List.take_append,hf x,List.take_of_length_le (by rw[hf x,Nat.add_mul];omega),List.take_succ_cons,I9,<- ih i];congr 2;rw[Nat.add_mul];omega
def RI.sub{α:Type}{f:α->List AV}{C:List α->List AV}{k:Nat}(h:RI f C k){t elem:TypeId}(hu:P.underlying t=some (.slice elem))(hs:(P.info? elem).map (·.size)=some k)(l q:Nat){s:List α}(h1:l<=q)(h2:q<=s.length)(lo hi:Option AV)(e1:N8 0 lo=some l)(e2:N8 s.length hi=some q) :
   Md P t (.sl .lost s.length (C s)) lo hi none=some (.sl .lost ((s.drop l).take (q - l)).length (C ((s.drop l).take (q - l)))):=by
 cases NF:P.info? elem with
 | none=>rw[NF] at hs;cases hs
 | some e =>
   rw[NF] at hs;have hk:e.size=k:=by simpa using hs
   unfold Md;simp only[hu,NF,e1,e2,hk];rw[if_pos ⟨h1,h2,by rw[h.eq,SR h.len]⟩]
   have e3:(if l=0/\q=s.length then Own.lost else if q=s.length/\Own.lost=.full then .full else .lost)=.lost:=by
     split;rfl;split;rename_i hq;exact absurd hq.2 (by decide);rfl
   rw[e3,h.eq,h.eq,Xa h.len,Xb h.len];congr 2;simp;omega
def wL{β:Type}(f:Nat->Option β):Option β:=open Classical in if h:∃y,∃n0:Nat,∀n,n0<=n->f n=some y then some (Classical.choose h) else none
def jY{β:Type}{f:Nat->Option β}{y:β}(h:wL f=some y):∃n,f n=some y:=by
 unfold wL at h;split at h;rename_i hx;obtain⟨n0,hn⟩:=Classical.choose_spec hx;rw[Option.some.inj h] at hn;exact⟨n0,hn n0 (Nat.le_refl _)⟩;cases h
def T5{β:Type}{f:Nat->Option β}{y:β}(n0:Nat)(h:∀n,n0<=n->f n=some y):wL f=some y:=by
 unfold wL;have hx:∃y,∃n0:Nat,∀n,n0<=n->f n=some y:=⟨y,n0,h⟩;rw[dif_pos hx];obtain⟨n1,hn⟩:=Classical.choose_spec hx;have h1:=h (max n0 n1) (Nat.le_max_left _ _);have h2:=hn (max n0 n1) (Nat.le_max_right _ _);rw[h1] at h2;rw[Option.some.inj h2]
def MT{β:Type}(n:Nat)(x:Option β):Option β:=if n<=100000000 then x else none
def aca{β:Type}{n:Nat}{x:Option β}{r:β}(h:MT n x=some r):n<=100000000/\x=some r:=by
 unfold MT at h;split at h;rename_i h1;exact⟨h1,h⟩;cases h
def RI.aD{α:Type}{f:α->List AV}{C:List α->List AV}{k:Nat}(h:RI f C k){t tx e e2 by':Nat}(hu:P.underlying t=some (.slice e))(hux:P.underlying tx=some (.slice e2))(hi:(P.info? e).map (λi=>(i.size,i.bytes,i.zero.map (·.cells.size)))=some (k,by',some k))(hk:0 < k)(hb:by'<=10000)
   (own:Own) (l m:List α) {o:Own} {n:Nat} {ns:List AV} (hn:Wn ns (C m)) (pM:n=m.length) (ho:ns.all one=true) (hm:m.length≠0) (hlen:l.length+m.length<=100000000):Cd.ok P G (.aD t tx own l.length (C l) (.sl o n ns) k (l++m).length (C (l++m))):=by
 subst pM;cases hq:P.info? e with
 | none=>rw[hq] at hi;cases hi
 | some i =>
   rw[hq] at hi;simp only[Option.map_some,Option.some.injEq,Prod.mk.injEq] at hi;obtain⟨h1,h2,h3⟩:=hi;cases hz:i.zero with
   | none=>rw[hz] at h3;cases h3
   | some z =>
     rw[hz] at h3;simp only[Option.map_some,Option.some.injEq] at h3;intro s Q8;have VU:ns.length=m.length*k:=by rw[hn.len,h.eq,SR h.len]
     have wX:(C l).length=l.length*k:=by rw[h.eq,SR h.len]
     refine⟨C l++ns,?_,λc w u o' hr=>?_⟩
     have hs:jG P s i.size tx (.sl o m.length ns)=some (m.length,ns):=by
       unfold jG;rw[hux,h1];simp only[VU,if_true]
     unfold Mv;simp only[hu,hq,hz];rw[if_pos ⟨by rw[h3,h1],by omega⟩,hs];simp only
     have sT:(l.length+m.length)*i.bytes<=140737488355328:=by
       rw[h2];exact Nat.le_trans (Nat.mul_le_mul hlen hb) (by decide)
     rw[if_pos ⟨by rw[wX,h1],ho,sT,by omega⟩,if_neg hm,h1,if_pos Q8,List.length_append];rw[h.WK];exact Rp.wnC (Wn.WK (Wn.refl (C l)) hn) hr
def QC{t tx:TypeId}{own:Own}{n:Nat}{cs:List AV}{b:AV}{sz k:Nat}{sA:List AV}(h:Cd.ok P G (.aD t tx own n cs b sz k sA)):PC P G :=
 match own with
 | .row r z=>⟨.g sz k sA,[.aD t tx (.row r z) n cs b sz k sA,.eqn n n],⟨h,rfl,trivial⟩⟩
 | .full=>⟨.g sz k sA,[.aD t tx .full n cs b sz k sA],⟨h,trivial⟩⟩
 | _=>⟨.g sz k sA,[],trivial⟩
def A1{a:AV}{l:List AV}(h:plain a=true)(t:BN l=true):BN (a::l)=true:=by simp only[BN,h,t];rfl
def aiA{a b:List AV}(ha:BN a=true)(hb:BN b=true):BN (a++b)=true:=by
 induction a with
 | nil=>exact hb
 | cons x a ih =>
   simp only[BN,Bool.and_eq_true,List.cons_append] at ha ⊢;exact⟨ha.1,ih ha.2⟩
def I4{n m:Nat}{a:AV}{l:List AV}(h:under n m a=true)(t:FJ n m l=true):FJ n m (a::l)=true:=by simp only[FJ,h,t];rfl
end
end AI
namespace AI
open Go Go.RowKit
def Kj{P:Program}{α β:Type}(m:Sem α)(f:α->Sem β):pv P (m >>= f)=(pv P m).bind λa=>pv P (f a):=by
 show pv P (m.bind f)=_
 induction m with
 | pure a=>rfl
 | program k ih=>exact ih P
 | mark _ k ih=>exact ih
 | _=>rfl
def NT{P:Program}{α:Type}(a:α):pv P (pure a:Sem α)=some a:=rfl
def Un{P:Program}:pv P program=some P:=rfl
def KL{P:Program}{t:TypeId}{d:TypeDesc}(h:P.underlying t=some d):pv P (underlying t)=some d:=by
 unfold underlying;rw[Kj,Un];simp only[Option.bind_some,h];rfl
def akV{P:Program}{α:Type}(c:Prop)[Decidable c](a b:Sem α):pv P (if c then a else b)=if c then pv P a else pv P b:=by split<;>rfl
def Vw{P:Program}(d:Nat)(t:TypeId)(xs ys:Array Value)(ht:P.underlying t=some (.struct (P.fieldsOf t)))(hp:P.stoodInHeld t=false) :
   pv P (Op.equalIn (d+1) t (.agg xs) (.agg ys))=pv P (Op.eqFields d xs ys (P.fieldsOf t).toList):=by
 simp only[Op.equalIn,Kj,KL ht,Option.bind_some,Un,hp,Bool.false_eq_true,if_false];rw[<- Array.forIn_toList];generalize (P.fieldsOf t).toList=fs;clear ht
 induction fs with
 | nil=>simp[Op.eqFields,NT]
 | cons f fs ih =>
   simp only[List.forIn_cons,Op.eqFields,Kj,akV];split
   . generalize pv P (part f.type xs f.offset)=r1
     cases r1 with
     | none=>simp
     | some a =>
       simp only[Option.bind_some];generalize pv P (part f.type ys f.offset)=r2;cases r2 with
       | none=>simp
       | some b =>
         simp only[Option.bind_some];generalize pv P (Op.equalIn d f.type a b)=r3;cases r3 with
         | none=>simp
         | some r =>
           cases r;simp[NT];simp only[Option.bind_some,Bool.not_true,Bool.false_eq_true,if_false,NT];exact ih
   simp only[NT,Option.bind_some];exact ih
def agc{P:Program}{t:TypeId}{k:IntKind}(h:P.underlying t=some (.int k))(cs:Array Value)(off:Nat){v:Value}(hv:cs[off]?=some v):pv P (part t cs off)=some v:=by
 unfold part isAgg;simp[Kj,KL h,NT,hv]
def Zo{P:Program}(d:Nat){t:TypeId}{k k':IntKind}(a b:Int)(h:P.underlying t=some (.int k')):pv P (Op.equalIn (d+1) t (.int k a) (.int k b))=some (a == b):=by
 simp[Op.equalIn,Kj,KL h,NT]
def lJ{P:Program}(op:BinOp)(t:TypeId)(x y:Operand)(xs ys:Array Value)(hm:P.eqGuardType P.depth t=false):pv P (eqGuard op t x y (.agg xs) (.agg ys))=some ():=by
 cases op<;>simp[eqGuard,Kj,Un,hm,NT]
def SB(P:Program)(t:TypeId):Nat:=match P.underlying t with
 | some (.int _)=>1
 | some .string=>2
 | _=>0
def fEq:Value->Value->Option Bool
 | .int k a,.int k' b=>if k=k' then some (a == b) else none
 | .string a,.string b=>some (a == b)
 | _,_=>none
def Z9:List Value->List Value->Option Bool
 | [],[]=>some true
 | a::as,b::bs=>(fEq a b).bind λr=>(match r with | true=>Z9 as bs | false=>some false)
 | _,_=>none
def lK{P:Program}{t:TypeId}(h:SB P t≠0)(cs:Array Value)(off:Nat){v:Value}(hv:cs[off]?=some v):pv P (part t cs off)=some v:=by
 unfold SB at h;split at h;rename_i h1;exact agc h1 cs off hv;rename_i h1;unfold part isAgg;simp[Kj,KL h1,NT,hv];exact absurd rfl h
def akU{P:Program}(d:Nat){t:TypeId}{a b:Value}{r:Bool}(hk:(∃k n m,a=.int k n/\b=.int k m/\SB P t=1)\/(∃x y,a=.string x/\b=.string y/\SB P t=2))(h:fEq a b=some r):pv P (Op.equalIn (d+1) t a b)=some r:=by
 rcases hk with ⟨k,n,m,rfl,rfl,hk⟩ | ⟨x,y,rfl,rfl,hk⟩
 unfold SB at hk;split at hk;rename_i h1;simp only[fEq,if_true] at h;rw[Zo d n m h1];exact h;cases hk;cases hk;unfold SB at hk;split at hk;cases hk;rename_i h1;simp only[fEq] at h;rw[<- h];simp[Op.equalIn,Kj,KL h1,NT];cases hk
def j3:List Nat->List Value->Prop
 | [],[]=>True
 | k::ks,v::vs=>((∃n,v=.int .i64 n/\k=1)\/(∃x,v=.string x/\k=2))/\j3 ks vs
 | _,_=>False
def xR{P:Program}(d:Nat):∀(fs:List Field) (off:Nat) (ks:List Nat) (xs ys:List Value) (us vs:List Value) (r:Bool),fs.map (λf=>SB P f.type)=ks->(∀(i:Nat) f,fs[i]?=some f->f.name≠"_"/\f.offset=off+i)->xs.drop off=us->ys.drop off=vs->j3 ks us->j3 ks vs->Z9 us vs=some r->pv P (Op.eqFields (d+1) xs.toArray ys.toArray fs)=some r:=by
 intro fs
 induction fs with
 | nil =>
   intro off ks xs ys us vs r iR _ hx hy h1 h2 h;cases ks with
   | cons=>cases iR
   | nil =>
     cases us<;>cases vs<;>simp only[j3,Z9] at h1 h2 h
     rw[<- h];rfl
 | cons f fs ih =>
   intro off ks xs ys us vs r iR hf hx hy h1 h2 h;cases ks with
   | nil=>cases iR
   | cons k ks =>
     cases us with
     | nil=>cases h1
     | cons u us =>
       cases vs with
       | nil=>cases h2
       | cons v vs =>
         simp only[List.map_cons,List.cons.injEq] at iR;obtain⟨hk,iR⟩:=iR;obtain⟨hn,ho⟩:=hf 0 f rfl;rw[Nat.add_zero] at ho;have hxu:xs.toArray[off]?=some u:=by rw[List.getElem?_toArray,<- List.head?_drop,hx];rfl
         have hyv:ys.toArray[off]?=some v:=by rw[List.getElem?_toArray,<- List.head?_drop,hy];rfl
         have hk0:SB P f.type≠0:=by
           rw[hk];rcases h1.1 with ⟨_,_,e⟩ | ⟨_,_,e⟩<;>omega
         have hkk:(∃k n m,u=.int k n/\v=.int k m/\SB P f.type=1)\/(∃x y,u=.string x/\v=.string y/\SB P f.type=2):=by
           rw[hk];rcases h1.1 with ⟨n,e1,e2⟩ | ⟨n,e1,e2⟩<;>rcases h2.1 with ⟨m,e3,e4⟩ | ⟨m,e3,e4⟩
           exact .inl ⟨_,n,m,e1,e3,e2⟩;omega;omega;exact .inr ⟨n,m,e1,e3,e2⟩
         simp only[Z9] at h;cases hq:fEq u v with
         | none=>rw[hq] at h;cases h
         | some q =>
           rw[hq] at h;simp only[Op.eqFields,hn,ne_eq,not_false_eq_true,if_true,ho];simp only[Kj,lK hk0 xs.toArray off hxu,lK hk0 ys.toArray off hyv,Option.bind_some,akU d hkk hq];cases q with
           | false =>
             have:r=false:=by simpa using h.symm
             subst this;rfl
           | true =>
             have ih:=ih (off+1) ks xs ys us vs r iR (λi f' hi=>by
               have:=hf (i+1) f' (by simpa using hi)
               exact⟨this.1,by rw[this.2];omega⟩) (by rw[<- List.tail_drop,hx];rfl) (by rw[<- List.tail_drop,hy];rfl) h1.2 h2.2 (by simpa using h)
             simpa using ih
structure Flat(P:Program)(t:TypeId)(ks:List Nat):Prop where
 st:P.underlying t=some (.struct (P.fieldsOf t))
 hp:P.stoodInHeld t=false
 hm:P.eqGuardType P.depth t=false
 kd:(P.fieldsOf t).toList.map (λf=>SB P f.type)=ks
 nm:(P.fieldsOf t).toList.map (λf=>decide (f.name≠"_"))=List.replicate ks.length true
 of:(P.fieldsOf t).toList.map (λf=>f.offset)=List.range ks.length
def yX(vs:List Value):Po (vs.map .sc)=some vs:=by
 induction vs with
 | nil=>rfl
 | cons v vs ih=>simp[Po,ZF,ih]
def Flat.pv{P:Program}{t:TypeId}{ks:List Nat}(h:Flat P t ks){us vs:List Value}{r:Bool}(h1:j3 ks us)(h2:j3 ks vs)(h3:Z9 us vs=some r):AI.pv P (Op.equalIn (9998+1+1) t (.agg us.toArray) (.agg vs.toArray))=some r:=by
 rw[Vw _ _ _ _ h.st h.hp];refine xR 9998 _ 0 ks us vs us vs r h.kd (λi f hf=>?_) rfl rfl h1 h2 h3
 have hl:i < ks.length:=by
   have:=(List.getElem?_eq_some_iff.1 hf).1;have h5:=congrArg List.length h.kd;simp at h5 this;omega
 have a1:=congrArg (λl=>l[i]?) h.nm;have a2:=congrArg (λl=>l[i]?) h.of;simp only[List.getElem?_map,hf,Option.map_some,List.getElem?_replicate,hl,if_true,Option.some.injEq,decide_eq_true_eq] at a1;simp only[List.getElem?_map,hf,Option.map_some,List.getElem?_range hl,Option.some.injEq] at a2;exact⟨a1,by omega⟩
def Flat.bin{P:Program}{t:TypeId}{ks:List Nat}(h:Flat P t ks){us vs:List Value}{r:Bool}(h1:j3 ks us)(h2:j3 ks vs)(h3:Z9 us vs=some r)(x y:Operand) :
   L2 P .eql t x y (.agg (us.map .sc)) (.agg (vs.map .sc))=some (.sc (.bool r))/\L2 P .neq t x y (.agg (us.map .sc)) (.agg (vs.map .sc))=some (.sc (.bool (!r))):=by
 have ht:∀l:List Value,VG (.agg (l.map .sc))=some (.agg l.toArray):=λl=>by simp only[VG,yX,Option.map_some]
 have hv:=h.pv h1 h2 h3
 have e1:AI.pv P (do eqGuard .eql t x y (.agg us.toArray) (.agg vs.toArray);binOp .eql t (.agg us.toArray) (.agg vs.toArray))=some (.bool r):=by
   rw[Kj,lJ _ _ _ _ _ _ h.hm];simp only[Option.bind_some,binOp,Kj,Op.equal,Op.maxDepth];rw[show(10000:Nat)=9998+1+1 from rfl,hv];rfl
 have e2:AI.pv P (do eqGuard .neq t x y (.agg us.toArray) (.agg vs.toArray);binOp .neq t (.agg us.toArray) (.agg vs.toArray))=some (.bool (!r)):=by
   rw[Kj,lJ _ _ _ _ _ _ h.hm];simp only[Option.bind_some,binOp,Kj,Op.equal,Op.maxDepth];rw[show(10000:Nat)=9998+1+1 from rfl,hv];rfl
 refine⟨?_,?_⟩;show RJ _ _ _ _ _ (.agg _) (.agg _)=_;unfold RJ;simp only[ht,e1,Option.bind_some];rfl;show RJ _ _ _ _ _ (.agg _) (.agg _)=_;unfold RJ;simp only[ht,e2,Option.bind_some];rfl
def alz(x y:Int):Int:=if y > x then y else x
end AI
namespace AI
open Go Go.RowKit
mutual
inductive Rn(k j:Nat)(ρ σ:Nat->Nat):AV->AV->Prop where
 | pl {a:AV} (h:plain a=true):Rn k j ρ σ a a
 | ptr {i off:Nat} (h:i < k):Rn k j ρ σ (.ptr i off) (.ptr (ρ i) off)
 | mp {i:Nat} (h:i < k):Rn k j ρ σ (.mp i) (.mp (ρ i))
 | Oo {i off n:Nat} (h:i < k):Rn k j ρ σ (.Oo i off n) (.Oo (ρ i) off n)
 | row {r sz n:Nat} {cs:List AV} (h:r < j) (hp:BN cs=true):Rn k j ρ σ (.sl (.row r sz) n cs) (.sl (.row (σ r) sz) n cs)
 | agg {cs ds:List AV} (h:UP k j ρ σ cs ds):Rn k j ρ σ (.agg cs) (.agg ds)
 | C6 {cs ds:List AV} (h:UP k j ρ σ cs ds):Rn k j ρ σ (.C6 cs) (.C6 ds)
 | fn {f:Fn} {a a' b b':List AV} (h1:UP k j ρ σ a a') (h2:UP k j ρ σ b b'):Rn k j ρ σ (.fn f a b) (.fn f a' b')
inductive UP(k j:Nat)(ρ σ:Nat->Nat):List AV->List AV->Prop where
 | nil:UP k j ρ σ [] []
 | cons {a b:AV} {l m:List AV} (h:Rn k j ρ σ a b) (t:UP k j ρ σ l m):UP k j ρ σ (a::l) (b::m)
end
inductive vL(k j:Nat)(ρ σ:Nat->Nat):Bl->Bl->Prop where
 | cells {cs ds:List AV} (h:UP k j ρ σ cs ds):vL k j ρ σ (.cells cs) (.cells ds)
 | map {es:List (Value×AV×Nat)} {cl:Nat} (h:∀e∈es,plain e.2.1=true):vL k j ρ σ (.map es cl) (.map es cl)
def UP.pl{k j:Nat}{ρ σ:Nat->Nat}:∀{l:List AV},BN l=true->UP k j ρ σ l l
 | [],_=>.nil
 | a::l,h=>by
   simp only[BN,Bool.and_eq_true] at h;exact .cons (.pl h.1) (UP.pl h.2)
section
variable {c c':Cx} {w w':World} {k j:Nat} {ρ σ:Nat->Nat}
structure Dn(k j:Nat)(ρ σ:Nat->Nat)(c:Cx)(w:World)(c0:Cx)(w0:World):Prop where
 iD:∀g i v,P3 c w g i v->P3 c0 w0 g i v
 DA:∀i g,i < k->c.DA[ρ i]?=some (some g)->c0.DA[i]?=some (some g)
 rows:∀r,r < j->∃x,c.rows[σ r]?=some x/\c0.rows[r]?=some x
structure Up(k j:Nat)(ρ σ:Nat->Nat)(c0:Cx)(w0:World)(c:Cx)(w:World):Prop where
 iD:∀g i v,P3 c0 w0 g i v->P3 c w g i v
 DA:∀i g,i < k->c0.DA[i]?=some (some g)->c.DA[ρ i]?=some (some g)
 rows:∀r,r < j->∃x,c.rows[σ r]?=some x/\c0.rows[r]?=some x
mutual
def Rn.down(d:Dn k j ρ σ c w c' w'):∀{a b:AV} {v:Value},Rn k j ρ σ a b->Rp c w b v->Rp c' w' a v:=by
 intro a b v hn h;cases hn with
 | pl hp=>exact h.plain d.iD hp
 | ptr hi=>cases h with | ptr h1=>exact .ptr (d.DA _ _ hi h1)
 | mp hi=>cases h with | mp h1=>exact .mp (d.DA _ _ hi h1)
 | Oo hi=>cases h with | Oo hn h1=>exact .Oo hn (d.DA _ _ hi h1)
 | @row r sz n cs hr hp =>
   obtain⟨x,hx,wZ⟩:=d.rows r hr;have hl:=(List.getElem?_eq_some_iff.1 wZ).1;cases h with
   | KA h0=>exact .KA ⟨h0.1,hl⟩
   | No hn hc ho =>
     refine .No hn (hc.plain d.iD hp) ⟨ho.1,ho.2.1,hl,λe=>ho.2.2.2.1 ?_,λg' n' CC P5 e=>ho.2.2.2.2 g' n' CC P5 ?_⟩;rw[hx,<- wZ];exact e;rw[hx,<- wZ];exact e
 | agg h1=>cases h with | agg h2=>exact .agg (UP.down d h1 h2)
 | C6 h1=>cases h with | C6 h2=>exact .C6 (UP.down d h1 h2)
 | fn h1 h2=>cases h with | fn h3 h4=>exact .fn (UP.down d h1 h3) (UP.down d h2 h4)
def UP.down(d:Dn k j ρ σ c w c' w'):∀{a b:List AV} {v:List Value},UP k j ρ σ a b->CY c w b v->CY c' w' a v:=by
 intro a b v hn h;cases hn with
 | nil=>cases h;exact .nil
 | cons h1 t=>cases h with | cons h2 t2=>exact .cons (Rn.down d h1 h2) (UP.down d t t2)
end
mutual
def Rn.up(d:Up k j ρ σ c w c' w'):∀{a b:AV} {v:Value},Rn k j ρ σ a b->Rp c w a v->Rp c' w' b v:=by
 intro a b v hn h;cases hn with
 | pl hp=>exact h.plain d.iD hp
 | ptr hi=>cases h with | ptr h1=>exact .ptr (d.DA _ _ hi h1)
 | mp hi=>cases h with | mp h1=>exact .mp (d.DA _ _ hi h1)
 | Oo hi=>cases h with | Oo hn h1=>exact .Oo hn (d.DA _ _ hi h1)
 | @row r sz n cs hr hp =>
   obtain⟨x,hx,wZ⟩:=d.rows r hr;have hl:=(List.getElem?_eq_some_iff.1 hx).1;cases h with
   | KA h0=>exact .KA ⟨h0.1,hl⟩
   | No hn hc ho =>
     refine .No hn (hc.plain d.iD hp) ⟨ho.1,ho.2.1,hl,λe=>ho.2.2.2.1 ?_,λg' n' CC P5 e=>ho.2.2.2.2 g' n' CC P5 ?_⟩;rw[wZ,<- hx];exact e;rw[wZ,<- hx];exact e
 | agg h1=>cases h with | agg h2=>exact .agg (UP.up d h1 h2)
 | C6 h1=>cases h with | C6 h2=>exact .C6 (UP.up d h1 h2)
 | fn h1 h2=>cases h with | fn h3 h4=>exact .fn (UP.up d h1 h3) (UP.up d h2 h4)
def UP.up(d:Up k j ρ σ c w c' w'):∀{a b:List AV} {v:List Value},UP k j ρ σ a b->CY c w a v->CY c' w' b v:=by
 intro a b v hn h;cases hn with
 | nil=>cases h;exact .nil
 | cons h1 t=>cases h with | cons h2 t2=>exact .cons (Rn.up d h1 h2) (UP.up d t t2)
end
def K0.plain(hv:∀g i v,P3 c w g i v->P3 c' w' g i v):∀{es:List (Value×AV×Nat)} {fs:List MapEntry},(∀e∈es,AI.plain e.2.1=true)->K0 c w es fs->K0 c' w' es fs:=by
 intro es
 induction es with
 | nil=>intro fs _ h;cases h;exact .nil
 | cons e es ih =>
   intro fs hp h;cases h with | cons h1 t=>exact .cons (h1.plain hv (hp _ List.mem_cons_self)) (ih (λx hx=>hp x (List.mem_cons_of_mem _ hx)) t)
def vL.down(d:Dn k j ρ σ c w c' w'){a b:Bl}{o:Obj}(hn:vL k j ρ σ a b)(h:FK c w b o):FK c' w' a o:=by
 cases hn with
 | cells h1=>cases h with | Ja ext h2=>exact .Ja ext (UP.down d h1 h2)
 | map hp=>cases h with | map h2=>exact .map (h2.plain d.iD hp)
def vL.up(d:Up k j ρ σ c w c' w'){a b:Bl}{o:Obj}(hn:vL k j ρ σ a b)(h:FK c w a o):FK c' w' b o:=by
 cases hn with
 | cells h1=>cases h with | Ja ext h2=>exact .Ja ext (UP.up d h1 h2)
 | map hp=>cases h with | map h2=>exact .map (h2.plain d.iD hp)
end
structure Upd(k j:Nat)(ρ σ:Nat->Nat)(h2:List (Nat×Bl))(F2:List (Nat×Nat))(s s2:AS):Prop where
 nx:s2.nx=s.nx
 nr:s2.nr=s.nr
 desc:∀n,KC s.h n->KC s2.h n
 get:∀id b,s2.get id=some b->(∃i b0,i < k/\id=ρ i/\look i h2=some b0/\vL k j ρ σ b0 b)\/((∀i,i < k->id≠ρ i)/\s.get id=some b)
 tok:∀q n,Fw q s2.F=some n->(∃r,r < j/\q=σ r/\Fw r F2=some n)\/((∀r,r < j->q≠σ r)/\Fw q s.F=some n)
def RnR(k j:Nat)(ρ σ:Nat->Nat):CR->CR->Prop
 | .ret v,.ret v'=>Rn k j ρ σ v v'
 | .JK v,.JK v'=>Rn k j ρ σ v v'
 | _,_=>False
def ajy{P:Program}{G:Bc}(hG:∀g cs,G g=some cs->BN cs=true){f:FuncId}{args Yl:List AV}{r r':CR}{hm h2:List (Nat×Bl)}{k j:Nat}{Fm F2:List (Nat×Nat)}(h:Sound P G (.call f args ⟨hm,k,Fm,j⟩ r ⟨h2,k,F2,j⟩))(hd:KC hm k)
   (ρ σ:Nat->Nat) (apV:∀i i',i < k->i' < k->ρ i=ρ i'->i=i') (ain:∀i i',i < j->i' < j->σ i=σ i'->i=i') (II:UP k j ρ σ args Yl)
   {s s2:AS} (fE:∀i b,i < k->look i hm=some b->∃b',s.get (ρ i)=some b'/\vL k j ρ σ b b')
   (Ub:∀cx w vs,St G cx w s->CY cx w Yl vs->∀i,i < k->∃g,cx.DA[ρ i]?=some (some g))
   (amH:∀q n,q < j->Fw q Fm=some n->Fw (σ q) s.F=some n) (amG:∀q,q < j->∃n,Fw q Fm=some n) (hFm:∀q n,Fw q Fm=some n->q < j)
   (hr:RnR k j ρ σ r r')
   (hu:Upd k j ρ σ h2 F2 s s2):Sound P G (.call f Yl s r' s2):=by
 intro cx w vs hs ha;have hph:=Ub cx w vs hs ha
 have hg:∀i:Nat,∃g,i < k->cx.DA[ρ i]?=some (some g):=λi=>by
   by_cases hi:i < k;obtain⟨g,hg⟩:=hph i hi;exact⟨g,λ_=>hg⟩;exact⟨0,λh=>absurd h hi⟩
 obtain⟨gs,hgs⟩:=Classical.axiomOfChoice hg
 have hrw:∀q:Nat,∃x,q < j->cx.rows[σ q]?=some x:=λq=>by
   by_cases hq:q < j;obtain⟨n,hn⟩:=amG q hq;rcases hs.Kw _ _ (amH q n hq hn) with ⟨h1,_⟩ | ⟨g,cap,sz,h1⟩
   exact⟨_,λ_=>h1⟩;exact⟨_,λ_=>h1⟩;exact⟨.gone,λh=>absurd h hq⟩
 obtain⟨rw,hrw⟩:=Classical.axiomOfChoice hrw;have pL:∀i,i < k->some (gs i)∈cx.DA:=λi hi=>List.mem_of_getElem? (hgs i hi);have hgi:∀i i',i < k->i' < k->gs i=gs i'->i=i':=λi i' hi NF e=>apV i i' hi NF (hs.nodup _ _ _ (hgs i hi) (by rw[e];exact hgs i' NF));let K:Nat->Prop:=λq=>(∃i,i < k/\q=gs i)\/∃r n cap sz,r < j/\cx.rows[σ r]?=some (.Sd q n cap sz);let c0:Cx:=⟨0,(List.range k).map λi=>some (gs i),(List.range j).map rw,λq i=>¬K q/\cx.yH q i⟩
 have WY:∀(i g:Nat),c0.DA[i]?=some (some g)↔i < k/\g=gs i:=by
   intro i g;show((List.range k).map λi=>some (gs i))[i]?=some (some g)↔_;rw[List.getElem?_map];by_cases hi:i < k;rw[List.getElem?_range hi];simp[hi,eq_comm];rw[List.getElem?_eq_none (by simp;omega)];simp[hi]
 have sY:∀g,some g∈c0.DA->∃i,i < k/\g=gs i:=by
   intro g YV;obtain⟨i,hi,e⟩:=List.mem_map.1 YV;exact⟨i,List.mem_range.1 hi,(Option.some.inj e).symm⟩
 have bP:∀(q:Nat) x,c0.rows[q]?=some x->q < j/\cx.rows[σ q]?=some x:=by
   intro q x hx;have hx:((List.range j).map rw)[q]?=some x:=hx;have hl:=(List.getElem?_eq_some_iff.1 hx).1;simp at hl;rw[List.getElem?_map,List.getElem?_range hl] at hx;simp at hx;subst hx;exact⟨hl,hrw q hl⟩
 have pO:∀q,q < j->c0.rows[q]?=some (rw q):=by
   intro q hq;show((List.range j).map rw)[q]?=some (rw q);rw[List.getElem?_map,List.getElem?_range hq];rfl
 have abK:c0.rows.length=j:=by show((List.range j).map rw).length=j;simp
 have NH:∀g i x,P3 cx w g i x->P3 c0 w g i x:=by
   intro g i x hx;refine⟨hx.1,λKr=>?_,hx.2.2⟩;rcases Kr with Kr | ⟨r,n,cap,sz,hr,h1,h2⟩ | Kr
   obtain⟨i',NF,rfl⟩:=sY g Kr;exact hx.2.1 (.inl (pL i' NF));exact hx.2.1 (.inr (.inl ⟨σ r,n,cap,sz,(bP _ _ hr).2,h1,h2⟩));exact hx.2.1 Kr.2
 have hdn:Dn k j ρ σ cx w c0 w:=⟨NH,λi g hi YV=>by
   rw[WY];rw[hgs i hi] at YV;cases YV;exact⟨hi,rfl⟩,λq hq=>⟨rw q,hrw q hq,pO q hq⟩⟩
 have Gz:St G c0 w ⟨hm,k,Fm,j⟩:=by
   refine⟨by simp[c0],hd,λi i' g h1 h2=>?_,λg _=>Nat.zero_le _,λid g b h1 h2=>?_,abK.symm,λq g n cap sz hq=>?_,λq n hq=>?_,λg YV=>?_,(λq i hb=>hs.hH hb.2),λq q' g n cap sz n' CC P5 h1 h2=>?_,(λg cs YV=>Bk.plain NH (hG g cs YV) (hs.PH g cs YV)),Nat.zero_le _⟩;obtain⟨hi,e1⟩:=(WY i g).1 h1;obtain⟨NF,e2⟩:=(WY i' g).1 h2;exact hgi i i' hi NF (e1.symm.trans e2);obtain⟨hi,rfl⟩:=(WY id g).1 h1;obtain⟨b',Xj,hn⟩:=fE id b hi h2;obtain⟨o,ho,hb⟩:=hs.box (ρ id) (gs id) _ (hgs id hi) Xj;exact⟨o,ho,hn.down hdn hb⟩;obtain⟨hq1,Z5⟩:=bP _ _ hq;obtain⟨_,_,a3,a4,a5⟩:=hs.row _ _ _ _ _ Z5;refine⟨λi hb=>hb.1 (.inr ⟨q,n,cap,sz,hq1,Z5⟩),Nat.zero_le _,λnY=>?_,a4,a5⟩;obtain⟨i,hi,rfl⟩:=sY g nY;exact a3 (pL i hi);have GM:=hFm q n hq;have:=hs.Kw _ _ (amH q n GM hq);rw[hrw q GM] at this;rw[pO q GM];exact this;obtain⟨i,hi,rfl⟩:=sY g YV;exact hs.Ro (pL i hi);obtain⟨a1,a2⟩:=bP _ _ h1;obtain⟨b1,b2⟩:=bP _ _ h2;exact ain _ _ a1 b1 (hs.J2 _ _ _ _ _ _ _ _ _ a2 b2)
 refine(h c0 w vs Gz (II.down hdn ha)).mono ?_;rintro e w' ⟨c',hx,PJ,abz⟩
 have sZ:c'.DA=c0.DA:=by
   obtain⟨t,ht⟩:=hx.DA;have h1:c'.DA.length=k:=PJ.len.symm;have h2:c0.DA.length=k:=by simp[c0]
   rw[<- ht,List.length_append,h2] at h1;have:t=[]:=List.eq_nil_of_length_eq_zero (by omega);rw[<- ht,this,List.append_nil]
 have ajW:c'.rows.length=j:=PJ.J6.symm;have abL:∀q,q < j->∃y,c'.rows[q]?=some y:=λq hq=>⟨_,List.getElem?_eq_getElem (by rw[ajW];exact hq)⟩
 have hle:∀q y,q < j->c'.rows[q]?=some y->Lq (rw q) y:=by
   intro q y hq hy;obtain⟨x,h1,h2⟩:=hx.rows q y (by rw[abK];exact hq) hy;rw[pO q hq] at h1;cases h1;exact h2
 let lV:List Rw:=(List.range cx.rows.length).map λq=>open Classical in if hq:∃r,r < j/\σ r=q then c'.rows.getD (Classical.choose hq) .gone else cx.rows.getD q .gone
 have abM:lV.length=cx.rows.length:=by simp[lV]
 have aI:∀r,r < j->lV[σ r]?=c'.rows[r]?:=by
   intro r hr;have hl:=(List.getElem?_eq_some_iff.1 (hrw r hr)).1;show((List.range cx.rows.length).map _)[σ r]?=_;rw[List.getElem?_map,List.getElem?_range hl];simp only[Option.map_some];have hq:∃r',r' < j/\σ r'=σ r:=⟨r,hr,rfl⟩;rw[dif_pos hq];have hc:=Classical.choose_spec hq;have:Classical.choose hq=r:=ain _ _ hc.1 hr hc.2;rw[this];obtain⟨y,hy⟩:=abL r hr;rw[List.getD_eq_getElem?_getD,hy];rfl
 have fK:∀q,(∀r,r < j->q≠σ r)->lV[q]?=cx.rows[q]?:=by
   intro q hq;by_cases hl:q < cx.rows.length;show((List.range cx.rows.length).map _)[q]?=_;rw[List.getElem?_map,List.getElem?_range hl];simp only[Option.map_some];rw[dif_neg (by rintro⟨r,h1,h2⟩;exact hq r h1 h2.symm),List.getD_eq_getElem?_getD,List.getElem?_eq_getElem hl];rfl;rw[List.getElem?_eq_none (by omega),List.getElem?_eq_none (by omega)]
 have TL:∀q:Nat,(∃r,r < j/\q=σ r)\/∀r,r < j->q≠σ r:=λq=>by
   by_cases hq:∃r,r < j/\q=σ r;exact .inl hq;exact .inr λr h1 h2=>hq ⟨r,h1,h2⟩
 have Ua:∀r g n cap sz,r < j->c'.rows[r]?=some (.Sd g n cap sz)->(∃r0 n0 Sx mN,r0 < j/\cx.rows[σ r0]?=some (.Sd g n0 Sx mN))\/w.heap.size<=g:=by
   intro r g n cap sz hr hy;rcases hx.lU _ _ _ _ _ hy with ⟨r0,n0,Sx,mN,h1⟩ | h1
   obtain⟨h2,h3⟩:=bP _ _ h1;exact .inl ⟨r0,n0,Sx,mN,h2,h3⟩;exact .inr h1
 have aE:=hx.below
 have pH:S2 w w' K:=⟨aE.os,aE.tape,aE.output,aE.size,λq hq KE=>hx.Vi q hq (λnY=>KE (.inl (sY q nY))) (λr n cap sz hr=>KE (by
   obtain⟨h1,h2⟩:=bP _ _ hr;exact .inr ⟨r,n,cap,sz,h1,h2⟩))⟩
 have hKb:∀q,K q->cx.base<=q:=by
   rintro q (⟨i,hi,rfl⟩ | ⟨r,n,cap,sz,hr,h1⟩);exact hs.low _ (pL i hi);exact(hs.row _ _ _ _ _ h1).2.1
 let c1:Cx:=⟨cx.base,cx.DA,lV,cx.bad⟩
 have aip:∀g i x,P3 c' w' g i x->P3 c1 w' g i x:=by
   intro g i x hv;refine⟨hv.1,λKr=>hv.2.1 ?_,hv.2.2⟩;have NE:¬K g->cx.yH g i->c'.yH g i:=λh1 h2=>.inr (.inr (by rw[hx.bad];exact⟨h1,h2⟩));rcases Kr with Kr | ⟨q,n,cap,sz,hq,h1,h2⟩ | Kr
   by_cases hK:K g;rcases hK with ⟨i',NF,rfl⟩ | ⟨r,n,cap,sz,hr,h1⟩
   refine .inl ?_;rw[sZ];exact List.mem_of_getElem? ((WY i' (gs i')).2 ⟨NF,rfl⟩);exact absurd Kr (hs.row _ _ _ _ _ h1).2.2.1;exact NE hK (.inl Kr);rcases TL q with ⟨r,hr,rfl⟩ | n4
   simp only[c1] at hq;rw[aI r hr] at hq;exact .inr (.inl ⟨r,n,cap,sz,hq,h1,h2⟩);simp only[c1] at hq;rw[fK q n4] at hq;refine NE ?_ (.inr (.inl ⟨q,n,cap,sz,hq,h1,h2⟩));rintro(⟨i',NF,rfl⟩ | ⟨r,n',CC,P5,hr,h3⟩);exact(hs.row _ _ _ _ _ hq).2.2.1 (pL i' NF);exact n4 r hr (hs.J2 _ _ _ _ _ _ _ _ _ hq h3);by_cases hK:K g;rcases hK with ⟨i',NF,rfl⟩ | ⟨r,n,cap,sz,hr,h1⟩
   refine .inl ?_;rw[sZ];exact List.mem_of_getElem? ((WY i' (gs i')).2 ⟨NF,rfl⟩);exact absurd Kr ((hs.row _ _ _ _ _ h1).1 i);exact NE hK (.inr (.inr Kr))
 have ext:Ext cx w c1 w':=by
   refine⟨List.prefix_refl _,by simp[c1,abM],λq y hq hy=>?_,λg i x hv=>aip g i x (hx.iD g i x (NH g i x hv)),pH.below hs.Su hKb,rfl,rfl,λ_ h=>.inl h,λq g n cap sz hq=>?_,λq hq hp hr=>pH.block q hq ?_⟩;rcases TL q with ⟨r,hr,rfl⟩ | n4
   simp only[c1] at hy;rw[aI r hr] at hy;exact⟨rw r,hrw r hr,hle r y hr hy⟩;simp only[c1] at hy;rw[fK q n4] at hy;exact⟨y,hy,Lq.refl y⟩;rcases TL q with ⟨r,hr,rfl⟩ | n4
   simp only[c1] at hq;rw[aI r hr] at hq;rcases Ua _ _ _ _ _ hr hq with ⟨r0,n0,Sx,mN,_,h1⟩ | h1
   exact .inl ⟨_,_,_,_,h1⟩;exact .inr h1;simp only[c1] at hq;rw[fK q n4] at hq;exact .inl ⟨_,_,_,_,hq⟩;rintro(⟨i',NF,rfl⟩ | ⟨r,n',CC,P5,Z6,h3⟩);exact hp (pL i' NF);exact hr _ _ _ _ h3
 have hup:Up k j ρ σ c' w' c1 w':=⟨aip,λi g hi YV=>by
   rw[sZ,WY] at YV;obtain⟨_,rfl⟩:=YV;exact hgs i hi,λq hq=>by
   obtain⟨y,hy⟩:=abL q hq;exact⟨y,by simp only[c1];rw[aI q hq];exact hy,hy⟩⟩
 have st1:St G c1 w' s2:=by
   refine⟨by rw[hu.nx,hs.len],by rw[hu.nx];exact hu.desc _ hs.desc,hs.nodup,hs.low,λid g b h1 h2=>?_,by rw[hu.nr,hs.J6];exact abM.symm,λq g n cap sz hq=>?_,λq n hq=>?_,λg YV=>Nat.lt_of_lt_of_le (hs.O2 g YV) pH.size,λg i hb=>Nat.lt_of_lt_of_le (hs.OW g i hb) pH.size,λq q' g n cap sz n' CC P5 h1 h2=>?_,λg cs YV=>(hs.PH g cs YV).mono ext,Nat.le_trans hs.Su pH.size⟩;rcases hu.get id b h2 with ⟨i,b0,hi,rfl,hb0,hn⟩ | ⟨KE,h3⟩
   obtain⟨o,ho,hb⟩:=PJ.box i (gs i) b0 (by rw[sZ];exact(WY i (gs i)).2 ⟨hi,rfl⟩) hb0;have h1:cx.DA[ρ i]?=some (some g):=h1;rw[hgs i hi] at h1;cases h1;exact⟨o,ho,hn.up hup hb⟩;obtain⟨o,ho,hb⟩:=hs.box id g b h1 h3;refine⟨o,?_,hb.mono ext⟩;rw[pH.block g (Array.getElem?_eq_some_iff.1 ho).1 ?_];exact ho;rintro(⟨i',NF,rfl⟩ | ⟨r,n',CC,P5,Z6,h4⟩);exact KE i' NF (hs.nodup _ _ _ h1 (hgs i' NF));exact(hs.row _ _ _ _ _ h4).2.2.1 (List.mem_of_getElem? h1);simp only[c1] at hq ⊢;rcases TL q with ⟨r,Z6,rfl⟩ | n4
   rw[aI r Z6] at hq;obtain⟨a1,a2,a3,a4,a5⟩:=PJ.row _ _ _ _ _ hq;rcases Ua _ _ _ _ _ Z6 hq with ⟨r0,n0,Sx,mN,_,h4⟩ | h4
   obtain⟨b1,b2,b3,_⟩:=hs.row _ _ _ _ _ h4;exact⟨b1,b2,b3,a4,a5⟩;refine⟨λi hb=>?_,Nat.le_trans hs.Su h4,λnY=>?_,a4,a5⟩;have:=hs.OW _ _ hb;omega;have:=hs.Ro nY;omega;rw[fK q n4] at hq;obtain⟨a1,a2,a3,a4,vs',T,a5,a6⟩:=hs.row _ _ _ _ _ hq;refine⟨a1,a2,a3,a4,vs',T,?_,a6⟩;rw[pH.block g (Array.getElem?_eq_some_iff.1 a5).1 ?_];exact a5;rintro(⟨i',NF,rfl⟩ | ⟨r,n',CC,P5,Z6,h4⟩);exact a3 (pL i' NF);exact n4 r Z6 (hs.J2 _ _ _ _ _ _ _ _ _ hq h4);simp only[c1];rcases hu.tok q n hq with ⟨r,Z6,rfl,h3⟩ | ⟨n4,h3⟩
   rw[aI r Z6];exact PJ.Kw r n h3;rw[fK q n4];exact hs.Kw q n h3;simp only[c1] at h1 h2
   have key:∀r q,r < j->(∀r',r' < j->q≠σ r')->∀n cap sz n' CC P5,c'.rows[r]?=some (.Sd g n cap sz)->cx.rows[q]?=some (.Sd g n' CC P5)->False:=by
     intro r q Z6 n4 n cap sz n' CC P5 e1 e2;rcases Ua _ _ _ _ _ Z6 e1 with ⟨r0,n0,Sx,mN,s8,h4⟩ | h4
     exact n4 r0 s8 (hs.J2 _ _ _ _ _ _ _ _ _ e2 h4);have:=hs.Rt e2;omega
   rcases TL q with ⟨r,Z6,rfl⟩ | hq1<;>rcases TL q' with ⟨r2,bO,rfl⟩ | Z5
   rw[aI r Z6] at h1;rw[aI r2 bO] at h2;rw[PJ.J2 _ _ _ _ _ _ _ _ _ h1 h2];rw[aI r Z6] at h1;rw[fK q' Z5] at h2;exact(key r q' Z6 Z5 _ _ _ _ _ _ h1 h2).elim;rw[fK q hq1] at h1;rw[aI r2 bO] at h2;exact(key r2 q bO hq1 _ _ _ _ _ _ h2 h1).elim;rw[fK q hq1] at h1;rw[fK q' Z5] at h2;exact hs.J2 _ _ _ _ _ _ _ _ _ h1 h2
 refine⟨c1,ext,st1,?_⟩;cases r with
 | ret v =>
   cases r' with
   | ret v' =>
     obtain⟨u,rfl,hu'⟩:=abz;exact⟨u,rfl,Rn.up hup hr hu'⟩
   | JK v'=>exact hr.elim
 | JK v =>
   cases r' with
   | ret v'=>exact hr.elim
   | JK v' =>
     obtain⟨u,rfl,hu'⟩:=abz;exact⟨u,rfl,Rn.up hup hr hu'⟩
end AI
namespace AI
open Go Go.RowKit
def Vp:List Bl->Nat->List (Nat×Bl)->List (Nat×Bl)
 | [],_,acc=>acc
 | b::l,n,acc=>Vp l (n+1) ((n,b)::acc)
def rG:List Nat->Nat->List (Nat×Nat)
 | [],_=>[]
 | k::l,n=>(n,k)::rG l (n+1)
def qA{M:List Bl}:∀{n:Nat} {acc:List (Nat×Bl)} {i:Nat} {b:Bl},KC acc n->look i (Vp M n acc)=some b->(n<=i/\M[i - n]?=some b)\/look i acc=some b:=by
 induction M with
 | nil=>intro n acc i b _ h;exact .inr h
 | cons x M ih =>
   intro n acc i b hd h;rcases ih (n:=n+1) (acc:=(n,x)::acc) ⟨Nat.lt_succ_self n,hd⟩ h with ⟨h1,h2⟩ | h1
   refine .inl ⟨by omega,?_⟩;rw[show i - n=(i - (n+1))+1 by omega];exact h2;simp only[look] at h1;split at h1;rename_i hb;have:=beq_true hb;subst this;cases h1;exact .inl ⟨Nat.le_refl _,by simp⟩;exact .inr h1
def oN{M:List Bl}:∀{n:Nat} {acc:List (Nat×Bl)},KC acc n->KC (Vp M n acc) (n+M.length):=by
 induction M with
 | nil=>intro n acc h;exact h
 | cons x M ih =>
   intro n acc h;have:=ih (n:=n+1) (acc:=(n,x)::acc) ⟨Nat.lt_succ_self n,h⟩;rw[List.length_cons,show n+(M.length+1)=n+1+M.length by omega];exact this
def Wc{T:List Nat}:∀{n r k:Nat},Fw r (rG T n)=some k->n<=r/\T[r - n]?=some k:=by
 induction T with
 | nil=>intro n r k h;cases h
 | cons x T ih =>
   intro n r k h;simp only[rG,Fw] at h;split at h;rename_i hb;have:=beq_true hb;subst this;cases h;exact⟨Nat.le_refl _,by simp⟩;obtain⟨h1,h2⟩:=ih h;refine⟨by omega,?_⟩;rw[show r - n=(r - (n+1))+1 by omega];exact h2
def cX{T:List Nat}:∀{n r:Nat},n<=r->r - n < T.length->∃k,Fw r (rG T n)=some k:=by
 induction T with
 | nil=>intro n r _ h;simp at h
 | cons x T ih =>
   intro n r h1 h2;simp only[rG,Fw];split;exact⟨_,rfl⟩;rename_i hb;have:=beq_false hb;exact ih (by omega) (by simp at h2;omega)
inductive Ya(k j:Nat)(ρ σ:Nat->Nat):List Bl->List (Nat×Bl)->Prop where
 | nil:Ya k j ρ σ [] []
 | cons {b b':Bl} {i:Nat} {l:List Bl} {m:List (Nat×Bl)} (h:vL k j ρ σ b b') (t:Ya k j ρ σ l m):Ya k j ρ σ (b::l) ((i,b')::m)
def Ya.len{k j:Nat}{ρ σ:Nat->Nat}{l:List Bl}{m:List (Nat×Bl)}(h:Ya k j ρ σ l m):l.length=m.length:=by
 induction h with
 | nil=>rfl
 | cons _ _ ih=>simp[ih]
def Ya.get{k j:Nat}{ρ σ:Nat->Nat}{l:List Bl}{m:List (Nat×Bl)}(h:Ya k j ρ σ l m):∀{i:Nat} {b:Bl},l[i]?=some b->∃e,m[i]?=some e/\vL k j ρ σ b e.2:=by
 induction h with
 | nil=>intro i b hb;simp at hb
 | cons h _ ih =>
   intro i b hb;cases i with
   | zero=>simp at hb;subst hb;exact⟨_,rfl,h⟩
   | succ i=>exact ih (by simpa using hb)
def Ya.apC{k j:Nat}{ρ σ:Nat->Nat}{l:List Bl}{m:List (Nat×Bl)}(h:Ya k j ρ σ l m):∀{i:Nat} {e:Nat×Bl},m[i]?=some e->∃b,l[i]?=some b/\vL k j ρ σ b e.2:=by
 induction h with
 | nil=>intro i b hb;simp at hb
 | cons h _ ih =>
   intro i b hb;cases i with
   | zero=>simp at hb;subst hb;exact⟨_,rfl,h⟩
   | succ i=>exact ih (by simpa using hb)
def mT:∀(l:List (Nat×Bl)) (s:AS) (id:Nat) (b:Bl),(s.Wv l).get id=some b->(∃e∈l,e.1=id/\e.2=b)\/((∀e∈l,e.1≠id)/\s.get id=some b)
 | [],s,id,b,h=>.inr ⟨(λe he=>by cases he),h⟩
 | e::l,s,id,b,h=>by
   rcases mT l (s.put e.1 e.2) id b h with ⟨x,hx,h1⟩ | ⟨h1,h2⟩
   exact .inl ⟨x,List.mem_cons_of_mem _ hx,h1⟩;rcases ZP h2 with ⟨h3,h4⟩ | ⟨h3,h4⟩
   exact .inl ⟨e,List.mem_cons_self,h3.symm,h4.symm⟩;refine .inr ⟨λx hx=>?_,h4⟩;rcases List.mem_cons.1 hx with rfl | hx
   exact λe=>h3 e.symm;exact h1 x hx
def dB:∀(l:List (Nat×Bl)) (s:AS),(s.Wv l).nx=s.nx/\(s.Wv l).nr=s.nr/\(s.Wv l).F=s.F/\∀n,KC s.h n->KC (s.Wv l).h n
 | [],s=>⟨rfl,rfl,rfl,λ_ h=>h⟩
 | e::l,s=>by
   obtain⟨h1,h2,h3,h4⟩:=dB l (s.put e.1 e.2);exact⟨h1,h2,h3,λn h=>h4 n (ZO h)⟩
def bJ:∀(l:List (Nat×Nat)) (s:AS) (q n:Nat),Fw q (s.TK l).F=some n->(∃e∈l,e.1=q/\e.2=n)\/((∀e∈l,e.1≠q)/\Fw q s.F=some n)
 | [],s,q,n,h=>.inr ⟨(λe he=>by cases he),h⟩
 | e::l,s,q,n,h=>by
   rcases bJ l _ q n h with ⟨x,hx,h1⟩ | ⟨h1,h2⟩
   exact .inl ⟨x,List.mem_cons_of_mem _ hx,h1⟩;rcases cT h2 with ⟨h3,h4,_⟩ | ⟨h3,h4⟩
   exact .inl ⟨e,List.mem_cons_self,h3.symm,h4.symm⟩;refine .inr ⟨λx hx=>?_,h4⟩;rcases List.mem_cons.1 hx with rfl | hx
   exact λe=>h3 e.symm;exact h1 x hx
def YN:∀(l:List (Nat×Nat)) (s:AS),(s.TK l).nx=s.nx/\(s.TK l).nr=s.nr/\(s.TK l).h=s.h
 | [],s=>⟨rfl,rfl,rfl⟩
 | e::l,s=>YN l _
def YM:∀{l:List (Nat×Bl)} {s:AS},YL s l=OU l->∀{i:Nat} {e:Nat×Bl},l[i]?=some e->s.get e.1=some e.2
 | [],s,_,i,e,he=>by simp at he
 | x::l,s,h,i,e,he=>by
   simp only[YL,OU,List.cons.injEq] at h;cases i with
   | zero=>simp at he;subst he;exact h.1
   | succ i=>exact YM h.2 (by simpa using he)
def j8:∀{l:List (Nat×Nat)} {F:List (Nat×Nat)},bH F l=Pp l->∀{i:Nat} {e:Nat×Nat},l[i]?=some e->Fw e.1 F=some e.2
 | [],s,_,i,e,he=>by simp at he
 | x::l,s,h,i,e,he=>by
   simp only[bH,Pp,List.cons.injEq] at h;cases i with
   | zero=>simp at he;subst he;exact h.1
   | succ i=>exact j8 h.2 (by simpa using he)
mutual
inductive Occ(id:Nat):AV->Prop where
 | ptr {off:Nat}:Occ id (.ptr id off)
 | mp:Occ id (.mp id)
 | Oo {off n:Nat}:Occ id (.Oo id off n)
 | agg {cs:List AV} (h:UN id cs):Occ id (.agg cs)
 | fn1 {f:Fn} {a b:List AV} (h:UN id a):Occ id (.fn f a b)
 | fn2 {f:Fn} {a b:List AV} (h:UN id b):Occ id (.fn f a b)
inductive UN(id:Nat):List AV->Prop where
 | here {a:AV} {l:List AV} (h:Occ id a):UN id (a::l)
 | there {a:AV} {l:List AV} (h:UN id l):UN id (a::l)
end
mutual
def Occ.DA{c:Cx}{w:World}{id:Nat}:∀{a:AV} {v:Value},Occ id a->Rp c w a v->∃g,c.DA[id]?=some (some g):=by
 intro a v ho h;cases ho with
 | ptr=>cases h with | ptr h1=>exact⟨_,h1⟩
 | mp=>cases h with | mp h1=>exact⟨_,h1⟩
 | Oo=>cases h with | Oo hn h1=>exact⟨_,h1⟩
 | agg h1=>cases h with | agg h2=>exact UN.DA h1 h2
 | fn1 h1=>cases h with | fn h2 h3=>exact UN.DA h1 h2
 | fn2 h1=>cases h with | fn h2 h3=>exact UN.DA h1 h3
def UN.DA{c:Cx}{w:World}{id:Nat}:∀{a:List AV} {v:List Value},UN id a->CY c w a v->∃g,c.DA[id]?=some (some g):=by
 intro a v ho h;cases ho with
 | here h1=>cases h with | cons h2 _=>exact Occ.DA h1 h2
 | there h1=>cases h with | cons _ h2=>exact UN.DA h1 h2
end
inductive Rch(args:List AV)(pre:List (Nat×Bl)):Nat->Prop where
 | arg {id:Nat} (h:UN id args):Rch args pre id
 | box {i id p:Nat} {cs:List AV} (h:Rch args pre i) (hp:pre[p]?=some (i,.cells cs)) (ho:UN id cs):Rch args pre id
def Rch.DA{G:Bc}{args:List AV}{pre:List (Nat×Bl)}{s:AS}(hb:YL s pre=OU pre){cx:Cx}{w:World}{vs:List Value}(hs:St G cx w s)(ha:CY cx w args vs){id:Nat}(h:Rch args pre id):∃g,cx.DA[id]?=some (some g):=by
 induction h with
 | arg h=>exact h.DA ha
 | box h hp ho ih =>
   obtain⟨g,hg⟩:=ih;obtain⟨o,_,hbo⟩:=hs.box _ g _ hg (YM hb hp);cases hbo with
   | Ja ext hr=>exact ho.DA hr
def LF{β:Type}(l:List (Nat×β))(i:Nat):Nat:=match l[i]? with
 | some e=>e.1
 | none=>0
def LG{β:Type}{l:List (Nat×β)}{i:Nat}{e:Nat×β}(h:l[i]?=some e):LF l i=e.1:=by unfold LF;rw[h]
def keys{β:Type}(l:List (Nat×β)):List Nat:=l.map (·.1)
def bU{β:Type}{l:List (Nat×β)}(h:(keys l).Nodup){i i':Nat}(hi:i < l.length)(NF:i' < l.length)(e:LF l i=LF l i'):i=i':=by
 have h1:(keys l)[i]?=some (LF l i):=by
   unfold keys;rw[List.getElem?_map,List.getElem?_eq_getElem hi,LG (List.getElem?_eq_getElem hi)];rfl
 have h2:(keys l)[i']?=some (LF l i'):=by
   unfold keys;rw[List.getElem?_map,List.getElem?_eq_getElem NF,LG (List.getElem?_eq_getElem NF)];rfl
 rw[<- e] at h2;exact xJ h h1 h2
def Ra{β β':Type}{l:List (Nat×β)}{m:List (Nat×β')}(h:keys l=keys m)(i:Nat):LF l i=LF m i:=by
 have h1:=congrArg (λx=>x[i]?) h;unfold keys at h1;simp only[List.getElem?_map] at h1;unfold LF;cases hl:l[i]?<;>cases hm:m[i]?<;>rw[hl,hm] at h1<;>simp at h1<;>simp[h1]
def HH{P:Program}{G:Bc}(hG:∀g cs,G g=some cs->BN cs=true){f:FuncId}{args Yl:List AV}{r r':CR}{M M2:List Bl}{T T2:List Nat}(pre RB:List (Nat×Bl))(tp tu:List (Nat×Nat)){k j:Nat}
   (h:Sound P G (.call f args ⟨Vp M 0 [],k,rG T 0,j⟩ r ⟨Vp M2 0 [],k,rG T2 0,j⟩))
   (hk:M.length=k) (hj:T.length=j) (wW:T2.length=j)
   (hku:keys RB=keys pre) (hkt:keys tu=keys tp) (Qg:(keys pre).Nodup) (Qh:(keys tp).Nodup)
   (htp:tp.map (·.2)=T) (htu:tu.map (·.2)=T2)
   (hb:Ya k j (LF pre) (LF tp) M pre) (BZ:Ya k j (LF pre) (LF tp) M2 RB)
   (II:UP k j (LF pre) (LF tp) args Yl)
   (hr:RnR k j (LF pre) (LF tp) r r')
   (ap2:∀e∈pre,Rch Yl pre e.1):Cd.ok P G (.Fc f Yl r' pre tp RB tu):=by
 intro s hgb hgf;have hpl:pre.length=k:=by rw[<- hb.len,hk]
 have htl:tp.length=j:=by rw[<- hj,<- htp,List.length_map]
 have hul:RB.length=k:=by
   have:=congrArg List.length hku;simp only[keys,List.length_map] at this;omega
 have arv:tu.length=j:=by rw[<- wW,<- htu,List.length_map]
 refine ajy hG h (by have:=oN (M:=M) (n:=0) (acc:=[]) trivial;rw[Nat.zero_add,hk] at this;exact this) (LF pre) (LF tp) (λi i' hi NF e=>bU Qg (by omega) (by omega) e) (λi i' hi NF e=>bU Qh (by omega) (by omega) e) II (s:=s) (λi b hi hl=>?_) (λcx w vs hs ha i hi=>?_) (λq n hq hl=>?_) (λq hq=>?_) (λq n hl=>?_) hr ?_;rcases qA (acc:=[]) trivial hl with ⟨_,h1⟩ | h1
 rw[Nat.sub_zero] at h1;obtain⟨e,he,hn⟩:=hb.get h1;exact⟨e.2,by rw[LG he];exact YM hgb he,hn⟩;cases h1;have he:pre[i]?=some pre[i]:=List.getElem?_eq_getElem (by omega);rw[LG he];exact(ap2 _ (List.mem_of_getElem? he)).DA hgb hs ha
 . obtain⟨_,h1⟩:=Wc hl
   rw[Nat.sub_zero,<- htp,List.getElem?_map] at h1;cases he:tp[q]? with
   | none=>rw[he] at h1;cases h1
   | some e =>
     rw[he] at h1;simp at h1;rw[LG he,<- h1];exact j8 hgf he
 exact cX (Nat.zero_le _) (by omega);obtain⟨_,h1⟩:=Wc hl;have:=(List.getElem?_eq_some_iff.1 h1).1;omega
 . obtain⟨a1,a2,a3,a4⟩:=dB RB s
   obtain⟨b1,b2,b3⟩:=YN tu (s.Wv RB);refine⟨by rw[b1,a1],by rw[b2,a2],λn hd=>by rw[b3];exact a4 n hd,λid b hg=>?_,λq n hq=>?_⟩
   . have hg:(s.Wv RB).get id=some b:=by
       unfold AS.get at hg ⊢;rw[b3] at hg;exact hg
     rcases mT RB s id b hg with ⟨e,he,rfl,rfl⟩ | ⟨h1,h2⟩
     . obtain⟨i,hi⟩:=List.mem_iff_getElem?.1 he
       have hil:=(List.getElem?_eq_some_iff.1 hi).1;obtain⟨b0,hb0,hn⟩:=BZ.apC hi;refine .inl ⟨i,b0,by omega,by rw[<- Ra hku,LG hi],?_,hn⟩
       have:∀(M:List Bl) (n:Nat) (acc:List (Nat×Bl)) (i:Nat) (b:Bl),M[i]?=some b->(∀e∈acc,e.1 < n)->look (n+i) (Vp M n acc)=some b:=by
         intro M
         induction M with
         | nil=>intro n acc i b h;simp at h
         | cons x M ih =>
           intro n acc i b h kC;cases i with
           | succ i =>
             have:=ih (n+1) ((n,x)::acc) i b (by simpa using h) (λe he=>by
               rcases List.mem_cons.1 he with rfl | he
               exact Nat.lt_succ_self _;have:=kC e he;omega)
             rw[show n+(i+1)=n+1+i by omega];exact this
           | zero =>
             simp at h;subst h;simp only[Vp,Nat.add_zero]
             have amE:∀(M:List Bl) (n':Nat) (acc:List (Nat×Bl)),n < n'->look n (Vp M n' acc)=look n acc:=by
               intro M
               induction M with
               | nil=>intro n' acc _;rfl
               | cons y M ih2 =>
                 intro n' acc GM;simp only[Vp];rw[ih2 (n'+1) _ (by omega)];simp only[look]
                 have:Nat.beq n' n=false:=by
                   cases hq:Nat.beq n' n with
                   | false=>rfl
                   | true=>have:=beq_true hq;omega
                 rw[this]
             rw[amE M (n+1) _ (by omega)];simp only[look];rw[show Nat.beq n n=true from Nat.beq_refl n]
       have:=this M2 0 [] i b0 hb0 (λe he=>by cases he);rwa[Nat.zero_add] at this
     refine .inr ⟨λi hi e=>?_,h2⟩;have he:RB[i]?=some RB[i]:=List.getElem?_eq_getElem (by omega);refine h1 _ (List.mem_of_getElem? he) ?_;rw[e,<- Ra hku,LG he]
   rcases bJ tu _ q n hq with ⟨e,he,rfl,rfl⟩ | ⟨h1,h2⟩
   obtain⟨i,hi⟩:=List.mem_iff_getElem?.1 he;have hil:=(List.getElem?_eq_some_iff.1 hi).1;refine .inl ⟨i,by omega,by rw[<- Ra hkt,LG hi],?_⟩;obtain⟨kk,hkk⟩:=cX (T:=T2) (n:=0) (r:=i) (Nat.zero_le _) (by omega);obtain⟨_,h3⟩:=Wc hkk;rw[Nat.sub_zero,<- htu,List.getElem?_map,hi] at h3;simp at h3;rw[hkk,h3];refine .inr ⟨λi hi e=>?_,by rw[<- a3];exact h2⟩;have he:tu[i]?=some tu[i]:=List.getElem?_eq_getElem (by omega);refine h1 _ (List.mem_of_getElem? he) ?_;rw[e,<- Ra hkt,LG he]
end AI
namespace AI
open Go Go.RowKit
section
variable {P:Program} {G:Bc}
def QM(G:Bc)(s0:AS)(r0:CR)(s2:AS):CR->AS->Prop:=λr s'=>match r0 with
 | .ret v=>∃a,r=.ret a/\Frg G s0 [a] s' [v] s2
 | .JK v=>∃a,r=.JK a/\Frg G s0 [a] s' [v] s2
def BW(hm:P.follows .mixedOrders=true){f:FuncId}{args:List AV}{s0 s2:AS}{r0:CR}(h:WC P G (XS P G) H0 f args s0 (QM G s0 r0 s2)):Sound P G (.call f args s0 r0 s2):=by
 obtain⟨r,s',hj,hq⟩:=h;have hS:=sound (T7 hm) hj;intro cx w vs hs II;refine(hS cx w vs hs II).mono ?_;rintro e w' ⟨c',hx,CX,abz⟩;cases r0 with
 | ret v =>
   obtain⟨a,rfl,hf⟩:=hq;obtain⟨u,rfl,hu⟩:=abz;obtain⟨c2,x2,XW,f2⟩:=hf cx w c' w' [u] hx hs CX (.cons hu .nil);cases f2 with
   | cons f3 _=>exact⟨c2,x2,XW,u,rfl,f3⟩
 | JK v =>
   obtain⟨a,rfl,hf⟩:=hq;obtain⟨u,rfl,hu⟩:=abz;obtain⟨c2,x2,XW,f2⟩:=hf cx w c' w' [u] hx hs CX (.cons hu .nil);cases f2 with
   | cons f3 _=>exact⟨c2,x2,XW,u,rfl,f3⟩
def R2(P:Program)(G:Bc)(fn:Func)(m:Nat)(s0:AS)(Q:AX->List AV->AS->Prop)(v:AV)(s2:AS):Prop:=∀a s',Frg G s0 [a] s' [v] s2->Sg P fn m Q a s'
def TW(G:Bc)(m:Nat)(s0:AS)(Q:AX->List AV->AS->Prop)(v:AV)(s2:AS):Prop:=∀a s',Frg G s0 [a] s' [v] s2->UO m Q a s'
def R2.body{fn:Func}{m:Nat}{s0 s2:AS}{v:AV}:R2 P G fn m s0 (U1 P fn m (QM G s0 (.ret v) s2)) v s2:=λa s' hf=>.body ⟨a,rfl,hf⟩
def TW.body{fn:Func}{m:Nat}{s0 s2:AS}{v:AV}:TW G m s0 (U1 P fn m (QM G s0 (.JK v) s2)) v s2:=λa s' hf=>.body ⟨a,rfl,hf⟩
def R2.outer{fn:Func}{m id:Nat}{ks:List KI}{s0 s2:AS}{Q:AX->List AV->AS->Prop}{v:AV}(h:R2 P G fn m s0 Q v s2):R2 P G fn m s0 (ET id (Ej P G ks Q)) v s2:=λa s' hf=>(h a s' hf).outer
def R2.Gi{fn:Func}{m:Nat}{L:Code}{s0 s1 s2:AS}{Q:AX->List AV->AS->Prop}{v:AV}(h:R2 P G fn m s0 Q v s2):R2 P G fn m s0 (Uv P G L s1 Q) v s2:=h
def TW.outer{m id:Nat}{ks:List KI}{s0 s2:AS}{Q:AX->List AV->AS->Prop}{v:AV}(h:TW G m s0 Q v s2):TW G m s0 (ET id (Ej P G ks Q)) v s2:=λa s' hf=>(h a s' hf).outer
def TW.Gi{m:Nat}{L:Code}{s0 s1 s2:AS}{Q:AX->List AV->AS->Prop}{v:AV}(h:TW G m s0 Q v s2):TW G m s0 (Uv P G L s1 Q) v s2:=h
def Af{f:FuncId}{args:List AV}{v:AV}{pre:List (Nat×Bl)}{tp:List (Nat×Nat)}{RB:List (Nat×Bl)}{tu:List (Nat×Nat)}(h:Cd.ok P G (.Fc f args (.ret v) pre tp RB tu)):PC P G :=
 ⟨.u v pre tp RB tu,[.Fc f args (.ret v) pre tp RB tu,.z7 (OU pre) (OU pre) (Pp tp) (Pp tp)],⟨h,⟨rfl,rfl⟩,trivial⟩⟩
def aga{f:FuncId}{args WO:List AV}{v:AV}{pre:List (Nat×Bl)}{tp:List (Nat×Nat)}{RB:List (Nat×Bl)}{tu:List (Nat×Nat)}(w:Wn args WO)(h:Cd.ok P G (.Fc f WO (.ret v) pre tp RB tu)):PC P G :=
 ⟨.u v pre tp RB tu,[.Fc f args (.ret v) pre tp RB tu,.z7 (OU pre) (OU pre) (Pp tp) (Pp tp)],⟨λs h1 h2 cx wd vs hs ha=>h s h1 h2 cx wd vs hs (w.ok ha),⟨rfl,rfl⟩,trivial⟩⟩
def An{f:FuncId}{args:List AV}{v:AV}{pre:List (Nat×Bl)}{tp:List (Nat×Nat)}{RB:List (Nat×Bl)}{tu:List (Nat×Nat)}(h:Cd.ok P G (.Fc f args (.JK v) pre tp RB tu)):PC P G :=
 ⟨.q v pre tp RB tu,[.Fc f args (.JK v) pre tp RB tu,.z7 (OU pre) (OU pre) (Pp tp) (Pp tp)],⟨h,⟨rfl,rfl⟩,trivial⟩⟩
def pz(c:Nat):PC P G:=⟨.z c,[],trivial⟩
def lL:PC P G:=⟨.za,[],trivial⟩
end
end AI
namespace AI
open Go Go.RowKit
mutual
def ZM{n m n2 m2:Nat}(h1:n<=n2)(h2:m<=m2):∀{a:AV},under n m a=true->under n2 m2 a=true
 | .sc _,_=>rfl
 | .agg cs,h=>by simp only[under] at h ⊢;exact Ka h1 h2 h
 | .C6 cs,h=>by simp only[under] at h ⊢;exact Ka h1 h2 h
 | .sl o k cs,h=>by
   simp only[under,Bool.and_eq_true] at h ⊢;refine⟨?_,Ka h1 h2 h.2⟩;have h3:=h.1;cases o with
   | row r z=>simp only[decide_eq_true_eq] at h3 ⊢;omega
   | _=>rfl
 | .Oo id _ _,h=>by simp only[under,decide_eq_true_eq] at h ⊢;omega
 | .el cs,h=>by simp only[under] at h ⊢;exact Ka h1 h2 h
 | .ptr id _,h=>by simp only[under,decide_eq_true_eq] at h ⊢;omega
 | .fn _ a b,h=>by simp only[under,Bool.and_eq_true] at h ⊢;exact⟨Ka h1 h2 h.1,Ka h1 h2 h.2⟩
 | .Fv _ v,h=>by simp only[under] at h ⊢;exact ZM h1 h2 h
 | .mp id,h=>by simp only[under,decide_eq_true_eq] at h ⊢;omega
 | .any,_=>rfl
 | .raw _ _ _,_=>rfl
def Ka{n m n2 m2:Nat}(h1:n<=n2)(h2:m<=m2):∀{a:List AV},FJ n m a=true->FJ n2 m2 a=true
 | [],_=>rfl
 | a::l,h=>by simp only[FJ,Bool.and_eq_true] at h ⊢;exact⟨ZM h1 h2 h.1,Ka h1 h2 h.2⟩
end
def Wn.z{l m:List AV}(t:Wn l m):Wn (.sl .full 0 []::l) (.sl .lost 0 []::m):=.s rfl t
def rS{P:Program}{G:Bc}{r:HR}{X:Prop}{x:Value}{fn:Func}{m:Nat}{l:List (PC P G)}(R:VX P G l (U1 P fn m (λr _=>∃a,r=.ret a/\Fits 0 0 a (.sc x))) r X)(h:agn P fn r=some (n6 l,.sc x)):X:=AA fn m R h .body .sc
abbrev JJ:=List Value×List AV
def akF:List Value->Nat->Value
 | [],_=>undef
 | v::_,0=>v
 | _::l,k+1=>akF l k
def am1:List AV->Nat->AV
 | [],_=>.sc undef
 | v::_,0=>v
 | _::l,k+1=>am1 l k
def jn(j:JJ)(k:Nat):Value:=akF j.1 k
def gn(j:JJ)(k:Nat):AV:=am1 j.2 k
def frm:Nat->Nat->List (Nat×AV)->List Nat->Nat->List Nat->Nat->JJ->List AV
 | 0,_,_,_,_,_,_,_=>[]
 | n+1,p,l,bs,kb,gs,kg,j=>(match aF p l with
   | some v=>v::frm n (p+1) (l.drop 1) bs kb gs kg j
   | none=>(match fD p bs with
     | true=>.sc (jn j kb)::frm n (p+1) l (bs.drop 1) (kb+1) gs kg j
     | false=>(match fD p gs with
       | true=>gn j kg::frm n (p+1) l bs kb (gs.drop 1) (kg+1) j
       | false=>.any::frm n (p+1) l bs kb gs kg j)))
where
 aF (p:Nat):List (Nat×AV)->Option AV
   | []=>none
   | e::_=>(match Nat.beq e.1 p with | true=>some e.2 | false=>none)
 fD (p:Nat):List Nat->Bool
   | []=>false
   | e::_=>Nat.beq e p
structure Mm(κ ν:Type) where
 es:List (κ×ν×Nat)
 cl:Nat
section
variable {κ ν:Type} [DecidableEq κ]
def Mb(k:κ):List (κ×ν×Nat)->Nat->Option (Nat×ν)
 | [],_=>none
 | e::es,i=>if e.1=k then some (i,e.2.1) else Mb k es (i+1)
def Mm.get(m:Mm κ ν)(k:κ):Option ν:=(Mb k m.es 0).map (·.2)
def Mm.set(m:Mm κ ν)(k:κ)(v:ν):Mm κ ν:=match Mb k m.es 0 with
 | some (j,_)=>(match m.es[j]? with | some e=>⟨m.es.set j (k,v,e.2.2),m.cl⟩ | none=>m)
 | none=>⟨m.es++[(k,v,m.cl)],m.cl+1⟩
def Mm.nil:Mm κ ν:=⟨[],0⟩
def xH(k k2:κ)(v:ν)(b:Nat):∀(es:List (κ×ν×Nat)) (i:Nat),Mb k (es++[(k2,v,b)]) i=match Mb k es i with
   | some r=>some r
   | none=>if k2=k then some (i+es.length,v) else none:=by
 intro es
 induction es with
 | nil=>intro i;simp[Mb]
 | cons e es ih =>
   intro i;simp only[List.cons_append,Mb];by_cases he:e.1=k;simp[he];rw[if_neg he,if_neg he,ih (i+1)];cases Mb k es (i+1) with
   | some r=>rfl
   | none=>simp only[List.length_cons];rw[show i+1+es.length=i+(es.length+1) by omega]
def kU{k:κ}:∀{es:List (κ×ν×Nat)} {i j:Nat} {v:ν},Mb k es i=some (j,v)->∃m e,j=i+m/\es[m]?=some e/\e.1=k/\e.2.1=v:=by
 intro es
 induction es with
 | nil=>intro i j v h;cases h
 | cons e es ih =>
   intro i j v h;simp only[Mb] at h;split at h;rename_i he;cases h;exact⟨0,e,rfl,rfl,he,rfl⟩;obtain⟨m,e',h1,h2,h3⟩:=ih h;exact⟨m+1,e',by omega,by simpa using h2,h3⟩
def xI{k:κ}{v:ν}:∀{es:List (κ×ν×Nat)} {i m b:Nat} {v0:ν},Mb k es i=some (i+m,v0)->∀k',Mb k' (es.set m (k,v,b)) i=if k'=k then some (i+m,v) else Mb k' es i:=by
 intro es
 induction es with
 | nil=>intro i m b v0 h;cases h
 | cons e es ih =>
   intro i m b v0 h k';simp only[Mb] at h;split at h;rename_i he;have hm:m=0:=by have h5:=congrArg (λo:Option (Nat×ν)=>o.map (·.1)) h;simp at h5;omega
   subst hm;simp only[List.set_cons_zero,Mb,he];by_cases hk:k'=k;simp[hk];have fF:¬k=k':=λe=>hk e.symm;simp[hk,fF]
   . rename_i he
     obtain⟨m',_,hm,_⟩:=kU h;cases m with
     | zero=>omega
     | succ m =>
       simp only[List.set_cons_succ,Mb];have:=ih (i:=i+1) (m:=m) (b:=b) (by rw[show i+1+m=i+(m+1) by omega];exact h) k';by_cases hk:e.1=k';rw[if_pos hk,if_pos hk];have:¬k'=k:=λe'=>he (hk.trans e');simp[this];rw[if_neg hk,if_neg hk,this,show i+1+m=i+(m+1) by omega]
def Mm.XJ(m:Mm κ ν)(k:κ)(v:ν)(k':κ):(m.set k v).get k'=if k'=k then some v else m.get k':=by
 unfold Mm.get Mm.set;cases hf:Mb k m.es 0 with
 | none =>
   simp only;rw[xH];by_cases hk:k'=k;subst hk;rw[hf];simp
   . cases YS:Mb k' m.es 0 with
     | some r=>simp[hk]
     | none =>
       have fF:¬k=k':=λe=>hk e.symm;simp[hk,fF]
 | some r =>
   obtain⟨j,v0⟩:=r;obtain⟨q,e,h1,h2,h3,_⟩:=kU hf;have hj:j=q:=by omega
   subst hj;simp only[h2];rw[xI (i:=0) (m:=j) (v0:=v0) (by rw[Nat.zero_add];exact hf)];by_cases hk:k'=k<;>simp[hk]
end
structure aq8{κ:Type}[DecidableEq κ](d:TypeDesc)(kv:κ->Value):Prop where
 pk:plainKey d=true
 same:∀a b:κ,Zw d (kv a) (kv b)=some (decide (b=a))
end AI
namespace AI
open Go Go.RowKit
section
variable {P:Program} {G:Bc} {α:Type} {f:α->List AV} {C:List α->List AV} {k:Nat}
def yE{l:List α}{i:Nat}(y:α)(h:i < l.length):l.set i y=l.take i++y::l.drop (i+1):=by
 rw[List.set_eq_take_append_cons_drop,if_pos h]
def RI.st(h:RI f C k){e:TypeId}(hs:(P.info? e).map (·.size)=some k){l:List α}{i:Nat}{x:α}(hx:l[i]?=some x)(y:α){v:AV}(hv:cellsOf v=f y)(h1:(f y).all one=true):Cd.ok P G (.stB (.cells (C l)) e (0+i*k) v (.cells (C (l.set i y)))):=by
 intro s id hg;have GM:=(List.getElem?_eq_some_iff.1 hx).1;have hle:i*k+k<=l.length*k:=by have:=Nat.mul_le_mul_right k GM;rw[Nat.succ_mul] at this;exact this
 cases hi:P.info? e with
 | none=>rw[hi] at hs;cases hs
 | some j =>
   rw[hi] at hs;have hk:j.size=k:=by simpa using hs
   unfold Me;rw[hi];simp only[hg];rw[hv,hk,h.eq,Nat.zero_add,if_pos ⟨h.len y,h1,by rw[SR h.len];exact hle⟩,h.eq];congr 3;unfold J8;rw[h.len y,Xb h.len,show i*k+k=(i+1)*k by rw[Nat.succ_mul],Xa h.len,yE y GM,W9,I9,List.append_assoc]
end
end AI
namespace AI
open Go Go.RowKit
section
variable {P:Program} {G:Bc}
def amc(n:Nat):List Nat->Bool
 | []=>false
 | k::l=>Nat.beq n k||amc n l
def Zm(ks:List Nat):List (Nat×Bl)->List (Nat×Bl)
 | []=>[]
 | e::l=>match amc e.1 ks with
   | true=>e::Zm ks l
   | false=>Zm ks l
def Uk{ks:List Nat}:∀{l:List (Nat×Bl)} {n:Nat},KC l n->KC (Zm ks l) n
 | [],_,_=>trivial
 | e::l,n,h=>by
   simp only[Zm];split;exact⟨h.1,Uk h.2⟩;exact(Uk h.2).mono (Nat.le_of_lt h.1)
def Ul{ks:List Nat}{id:Nat}{b:Bl}:∀{l:List (Nat×Bl)} {n:Nat},KC l n->look id (Zm ks l)=some b->look id l=some b
 | [],_,_,h=>h
 | e::l,n,hd,h=>by
   simp only[Zm] at h;split at h;simp only[look] at h ⊢;split at h;exact h;exact Ul hd.2 h;have h1:=Ul hd.2 h;have h2:=fW hd.2 h1;simp only[look];split;rename_i hb;have:=beq_true hb;omega;exact h1
def AS.pick(s:AS)(ks:List Nat):AS:=⟨Zm ks s.h,s.nx,s.F,s.nr⟩
def St.pick{c:Cx}{w:World}{s:AS}(h:St G c w s)(ks:List Nat):St G c w (s.pick ks) :=
 ⟨h.len,Uk h.desc,h.nodup,h.low,λid g b h1 h2=>h.box id g b h1 (Ul h.desc h2),h.J6,h.row,h.Kw,h.O2,h.OW,h.J2,h.PH,h.Su⟩
inductive RnH(dn dr nx nr:Nat):List (Nat×Bl)->List (Nat×Bl)->Prop where
 | nil:RnH dn dr nx nr [] []
 | cons {i:Nat} {b b':Bl} {l m:List (Nat×Bl)} (h:vL dn dr (λi=>nx+i) (λr=>nr+r) b b') (t:RnH dn dr nx nr l m):RnH dn dr nx nr ((i,b)::l) ((nx+i,b')::m)
def RnH.desc{dn dr nx nr:Nat}{l m h:List (Nat×Bl)}(hr:RnH dn dr nx nr l m)(hh:KC h nx):∀{n:Nat},KC l n->KC (m++h) (nx+n):=by
 induction hr with
 | nil=>intro n _;exact hh.mono (Nat.le_add_right _ _)
 | cons h1 t ih=>intro n hd;exact⟨Nat.add_lt_add_left hd.1 _,ih hd.2⟩
def RnH.look{dn dr nx nr id:Nat}{b:Bl}{l m h:List (Nat×Bl)}(hr:RnH dn dr nx nr l m)(hb:AI.look id (m++h)=some b):(∃i b0,id=nx+i/\AI.look i l=some b0/\vL dn dr (λi=>nx+i) (λr=>nr+r) b0 b)\/AI.look id h=some b:=by
 induction hr with
 | nil=>exact .inr hb
 | @cons i b0 b1 l m h1 t ih =>
   simp only[List.cons_append,AI.look] at hb;split at hb;rename_i he;cases hb;refine .inl ⟨i,b0,(beq_true he).symm,?_,h1⟩;simp only[AI.look];rw[Nat.beq_refl];rename_i he;have KE:=beq_false he;rcases ih hb with ⟨i',b',e,h2,h3⟩ | h2
   refine .inl ⟨i',b',e,?_,h3⟩;simp only[AI.look];split;rename_i h4;have:=beq_true h4;omega;exact h2;exact .inr h2
end
end AI
namespace AI
open Go Go.RowKit
section
variable {P:Program} {G:Bc}
def RI.ai6{α:Type}{f:α->List AV}{C:List α->List AV}{k:Nat}(h:RI f C k)(h1:∀x,(f x).all one=true)(m:List α):(C m).all one=true:=by
 rw[h.eq,List.all_eq_true];intro a ha;obtain⟨x,_,hx⟩:=List.mem_flatMap.1 ha;exact List.all_eq_true.1 (h1 x) a hx
def RI.ga{α:Type}{f:α->List AV}{C:List α->List AV}{k:Nat}(h:RI f C k){t tx e e2 by':Nat}(hu:P.underlying t=some (.slice e))(hux:P.underlying tx=some (.slice e2))(hi:(P.info? e).map (λi=>(i.size,i.bytes,i.zero.map (·.cells.size)))=some (k,by',some k))(hk:0 < k)(hb:by'<=10000)
   (own:Own) (l m:List α) {o:Own} (s:AS) (hm:m.length=0) (hlen:l.length+m.length<=100000000):Cd.ok P G (.WK s t tx (.sl own l.length (C l)) (.sl o m.length (C m)) (.sl own l.length (C l)) s):=by
 have hm0:m=[]:=List.eq_nil_of_length_eq_zero hm;subst hm0;cases hq:P.info? e with
 | none=>rw[hq] at hi;cases hi
 | some i =>
   rw[hq] at hi;simp only[Option.map_some,Option.some.injEq,Prod.mk.injEq] at hi;obtain⟨h1,h2,h3⟩:=hi;cases hz:i.zero with
   | none=>rw[hz] at h3;cases h3
   | some z =>
     rw[hz] at h3;simp only[Option.map_some,Option.some.injEq] at h3;have hc:C []=[]:=by rw[h.eq];rfl
     have wX:(C l).length=l.length*k:=by rw[h.eq,SR h.len]
     refine⟨.sl own l.length (C l),?_,λc w u hr=>hr⟩
     have hs:jG P s i.size tx (.sl o ([]:List α).length (C []))=some (0,[]):=by
       unfold jG;rw[hux,hc];simp
     unfold Mv;simp only[hu,hq,hz];rw[if_pos ⟨by rw[h3,h1],by omega⟩,hs];simp only[List.length_nil] at hlen ⊢
     have sT:(l.length+0)*i.bytes<=140737488355328:=by
       rw[h2];exact Nat.le_trans (Nat.mul_le_mul hlen hb) (by decide)
     rw[if_pos ⟨by rw[wX,h1],rfl,sT,by omega⟩,if_pos trivial]
def aqJ{s:AS}{t tx:TypeId}{a b:AV}(h:Cd.ok P G (.WK s t tx a b a s)):PC P G:=⟨.ae a,[.WK s t tx a b a s],⟨h,trivial⟩⟩
end
end AI
namespace AI
open Go Go.RowKit
def ahY:Nat->Nat->List Nat->List Nat
 | 0,_,acc=>acc
 | k+1,n,acc=>match Nat.ble n 1 with
   | true=>acc
   | false=>ahY k (n / 2) (n % 2::acc)
def sb(c:Code)(n:Nat):Code:=sub c (ahY 200 n [])
def wk1(a:AV):AV->AV
 | .any=>oP a
 | .sl .lost _ _=>(match a with
   | .sl _ n cs=>.sl .lost n cs
   | a=>a)
 | _=>a
def aly{c:Cx}{w:World}{a b:AV}{v:Value}(hr:Rp c w a v):Rp c w (wk1 a b) v:=by
 unfold wk1;split;exact wK hr;split;cases hr with
 | KA _=>exact .KA trivial
 | No hn hc _=>exact .No hn hc trivial
 exact hr;exact hr
def wkF:List AV->List AV->List AV
 | a::l,b::k=>wk1 a b::wkF l k
 | l,_=>l
def S0{c:Cx}{w:World}:∀{l k:List AV} {vs:List Value},CY c w l vs->CY c w (wkF l k) vs
 | [],k,_,h=>by cases k<;>exact h
 | a::l,[],_,h=>h
 | a::l,b::k,_,h=>by cases h with | cons h1 t=>exact .cons (aly h1) (S0 t)
def qH(n:Nat):AV->Bool
 | .fn _ a b=>xL a&&xL b
 | a=>obv n a
where
 xL:List AV->Bool
   | []=>true
   | a::l=>obv n a&&xL l
def XO{n m:Nat}:∀{l:List AV},qH.xL n l=true->FJ n m l=true
 | [],_=>rfl
 | a::l,h=>by
   simp only[qH.xL,Bool.and_eq_true] at h;simp only[FJ,Bool.and_eq_true];refine⟨?_,XO h.2⟩;have h1:=h.1;cases a<;>simp only[obv] at h1<;>first | rfl | (cases h1;done) | exact decide_eq_true (Nat.le_of_ble_eq_true h1)
def afX{n m:Nat}{a:AV}(h:qH n a=true):Fits n m a a:=by
 cases a with
 | fn f a b =>
   simp only[qH,Bool.and_eq_true] at h;exact .under (by simp only[under,Bool.and_eq_true];exact⟨XO h.1,XO h.2⟩)
 | _=>exact akJ h
def qB(r:List AV->MR)(n:Nat)(a:AV)(bs:List AV):MR:=match qH n a with
 | true=>tN a (r bs)
 | false=>none
def aL(n:Nat):List AV->List AV->List AV->MR
 | [],_,[]=>some ([],[])
 | [],_,_::_=>none
 | a::l,[],bs=>tO (aL n l []) a bs
 | a::l,b::k,bs=>match SE b with
   | true=>tO (aL n l k) a bs
   | false=>(match qH n b with
     | true=>qB (aL n l k) n a bs
     | false=>akx (aL n l k) a bs)
def xE{n m:Nat}{r:List AV->MR}{l:List AV}(hr:∀(Qe:List (FP n m)) l2,r (nW Qe)=some (l2,sI Qe)->K7 n m l l2){a:AV}{Qe:List (FP n m)}{l2:List AV}(h:qB r n a (nW Qe)=some (l2,sI Qe)):K7 n m (a::l) l2:=by
 unfold qB at h;split at h;rename_i ho;unfold tN at h;split at h;rename_i l3 as h1;cases h;exact .cons (afX ho) (hr Qe _ h1);cases h;cases h
def afU{n m:Nat}:∀{l k:List AV} {Qe:List (FP n m)} {l2:List AV},aL n l k (nW Qe)=some (l2,sI Qe)->K7 n m l l2:=by
 intro l
 induction l with
 | nil =>
   intro k Qe l2 h;cases Qe with
   | nil=>simp only[nW,aL] at h;cases h;exact .nil
   | cons p Qe=>simp only[nW,aL] at h;cases h
 | cons a l ih =>
   intro k Qe l2 h;cases k with
   | nil=>simp only[aL] at h;exact kQ (λQe l2 h=>ih h) h
   | cons b k =>
     simp only[aL] at h;split at h;exact kQ (λQe l2 h=>ih h) h;split at h;exact xE (λQe l2 h=>ih h) h;exact afS (λQe l2 h=>ih h) h
abbrev FO(n m:Nat):=Option (FB n m)
def z8{n m:Nat}:List (FO n m)->List (Option Bl)
 | []=>[]
 | none::l=>none::z8 l
 | some p::l=>some p.a::z8 l
def oX{n m:Nat}:List (FO n m)->List (Option Bl)
 | []=>[]
 | none::l=>none::oX l
 | some p::l=>some p.b::oX l
def aqF(n:Nat):Bl->Bool
 | .cells cs=>qH.xL n cs
 | _=>false
abbrev BO:=Option (List (Nat×Bl)×List (Option Bl))
def tT(id:Nat)(a:Option Bl)(b:Bl):BO->BO
 | some (l,as)=>some ((id,b)::l,a::as)
 | none=>none
def aB(n:Nat):List (Nat×Bl)->List (Option Bl)->BO
 | [],[]=>some ([],[])
 | e::l,none::bs=>(match aqF n e.2 with
   | true=>tT e.1 none e.2 (aB n l bs)
   | false=>none)
 | e::l,some b::bs=>tT e.1 (some e.2) b (aB n l bs)
 | _,_=>none
def aeT{n m:Nat}:∀{l:List (Nat×Bl)} {XH:List (FO n m)} {l2:List (Nat×Bl)},aB n l (oX XH)=some (l2,z8 XH)->(∀k,KC l k->KC l2 k)/\∀id b,look id l2=some b->∃b',look id l=some b'/\TD n m b' b:=by
 intro l
 induction l with
 | nil =>
   intro XH l2 h;cases XH with
   | nil=>simp only[oX,aB] at h;cases h;exact⟨λ_ _=>trivial,λid b h=>by cases h⟩
   | cons p XH=>cases p<;>(simp only[oX,aB] at h;cases h)
 | cons e l ih =>
   intro XH l2 h
   have fin:∀{XH:List (FO n m)} {l3:List (Nat×Bl)} {b2:Bl},aB n l (oX XH)=some (l3,z8 XH)->TD n m e.2 b2->(∀k,KC (e::l) k->KC ((e.1,b2)::l3) k)/\∀id b,look id ((e.1,b2)::l3)=some b->∃b',look id (e::l)=some b'/\TD n m b' b:=by
     intro XH l3 b2 h1 hf;obtain⟨hd,hl⟩:=ih h1;refine⟨λk hk=>⟨hk.1,hd _ hk.2⟩,λid b hb=>?_⟩;simp only[look] at hb ⊢;split at hb;cases hb;exact⟨e.2,rfl,hf⟩;exact hl id b hb
   cases XH with
   | nil=>simp only[oX,aB] at h;cases h
   | cons p XH =>
     cases p with
     | none =>
       simp only[oX,aB] at h;split at h;rename_i ho;unfold tT at h;split at h;rename_i l3 as h1;simp only[z8,Option.some.injEq,Prod.mk.injEq,List.cons.injEq,true_and] at h;obtain⟨rfl,rfl⟩:=h;refine fin h1 ?_;cases he:e.2 with
       | cells cs=>rw[he] at ho;exact .cells (.under (XO ho))
       | _=>rw[he] at ho;cases ho
       cases h;cases h
     | some p =>
       simp only[oX,aB] at h;unfold tT at h;split at h;rename_i l3 as h1;simp only[z8,Option.some.injEq,Prod.mk.injEq,List.cons.injEq] at h;obtain⟨rfl,h2,rfl⟩:=h;exact fin h1 (by rw[h2];exact p.h);cases h
abbrev RO2:=Option (List AV×AS×List AV×List (Option Bl))
def acL(rF:List AV)(n m:Nat)(Cp:List AV)(s':AS)(bs:List AV)(cs:List (Option Bl)):RO2 :=
 match aL n Cp rF bs with
 | some (fr2,as)=>(match aB n (U8 n s'.h) cs with
   | some (h2,cas)=>some (fr2,⟨h2,n,bG m s'.F,m⟩,as,cas)
   | none=>none)
 | none=>none
section
variable {P:Program} {G:Bc}
def gT(hG:∀g cs,G g=some cs->BN cs=true){rF:List AV}{s0:AS}{Cp:List AV}{s':AS}{Qe:List (FP s0.nx s0.nr)}{XH:List (FO s0.nx s0.nr)}{fr2:List AV}{s2:AS}(h:acL rF s0.nx s0.nr Cp s' (nW Qe) (oX XH)=some (fr2,s2,sI Qe,z8 XH)):Frg G s0 Cp s' fr2 s2:=by
 unfold acL at h;split at h;rename_i f1 as hm;split at h;rename_i h1 cas hb;simp only[Option.some.injEq,Prod.mk.injEq] at h;obtain⟨rfl,rfl,rfl,rfl⟩:=h;intro cx w c' w' vs hx hs CX Q7;obtain⟨hd,hl⟩:=aeT hb;refine afg (s:=s0) (s2:=⟨h1,s0.nx,bG s0.nr s'.F,s0.nr⟩) hG rfl rfl (hd _ (aaP CX.desc)) (λid b hb=>?_) (λr n hr=>aa4 hr) (afU hm) cx w c' w' vs hx hs CX Q7;obtain⟨b',h3,h4⟩:=hl id b hb;exact⟨b',YC CX.desc h3,h4⟩;cases h;cases h
def Frg.wk{s0 s':AS}{Cp k:List AV}:Frg G s0 Cp s' (wkF Cp k) s':=λ_ _ c' _ _ hx _ CX Q7=>⟨c',hx,CX,S0 Q7⟩
def xX(rF:List AV):HR->Option (AX×List Cd×List AV×AS)
 | some (.fin e,[],cd,fr,s)=>some (e,cd,wkF fr rF,s)
 | _=>none
def He{r:HR}{X:Prop}{L:Code}{s0:AS}{Q:AX->List AV->AS->Prop}{l:List (PC P G)}{fr2:List AV}{s2:AS}(R:VX P G l (Uv P G L s0 Q) r X)(h:xX fr2 r=some (.normal,n6 l,fr2,s2))(k:WL P G (XS P G) H0 L fr2 s2 Q):X:=by
 unfold xX at h;split at h;simp only[Option.some.injEq,Prod.mk.injEq] at h;obtain⟨rfl,rfl,h3,rfl⟩:=h;exact R _ _ _ _ rfl (PO l) ⟨_,_,h3▸Frg.wk,k⟩;cases h
def DC{r:HR}{X:Prop}{L:Code}{s0:AS}{Q:AX->List AV->AS->Prop}{l:List (PC P G)}{id:Nat}{fr2:List AV}{s2:AS}(R:VX P G l (Uv P G L s0 Q) r X)(h:xX fr2 r=some (.exit id,n6 l,fr2,s2))(k:Q (.exit id) fr2 s2):X:=by
 unfold xX at h;split at h;simp only[Option.some.injEq,Prod.mk.injEq] at h;obtain⟨rfl,rfl,h3,rfl⟩:=h;exact R _ _ _ _ rfl (PO l) ⟨_,_,h3▸Frg.wk,k⟩;cases h
def aiE(rF:List AV)(n m:Nat)(bs:List AV)(cs:List (Option Bl)):HR->Option (AX×List Cd×List AV×AS×List AV×List (Option Bl))
 | some (.fin e,[],cd,fr,s)=>(match acL rF n m fr s bs cs with
   | some (fr2,s2,as,cas)=>some (e,cd,fr2,s2,as,cas)
   | none=>none)
 | _=>none
def Ib(hG:∀g cs,G g=some cs->BN cs=true){r:HR}{X:Prop}{L:Code}{s0:AS}{Q:AX->List AV->AS->Prop}{l:List (PC P G)}(Qe:List (FP s0.nx s0.nr))(XH:List (FO s0.nx s0.nr)){fr2:List AV}{s2:AS}(R:VX P G l (Uv P G L s0 Q) r X)
   (h:aiE fr2 s0.nx s0.nr (nW Qe) (oX XH) r=some (.normal,n6 l,fr2,s2,sI Qe,z8 XH)) (k:WL P G (XS P G) H0 L fr2 s2 Q):X:=by
 unfold aiE at h;split at h;split at h;rename_i h1;simp only[Option.some.injEq,Prod.mk.injEq] at h;obtain⟨rfl,rfl,rfl,rfl,rfl,rfl⟩:=h;exact R _ _ _ _ rfl (PO l) ⟨_,_,gT hG h1,k⟩;cases h;cases h
def anb(n m0:Nat)(P:Program)(fn:Func)(m:Nat)(e0:AX)(rF bs:List AV)(cs:List (Option Bl)):HR->Option (AX×List Cd×List AV×AS×List AV×List (Option Bl))
 | some (.fin e,[],cd,fr,s)=>(match JO P s fn fr with
   | some v=>(match acL rF n m0 [v] (s.cut m) bs cs with
     | some (fr2,s2,as,cas)=>some (e,cd,fr2,s2,as,cas)
     | none=>none)
   | none=>none)
 | _=>none
def Aw(hG:∀g cs,G g=some cs->BN cs=true){r:HR}{X:Prop}{s0:AS}{Q:AX->List AV->AS->Prop}(fn:Func)(m:Nat){l:List (PC P G)}(Qe:List (FP s0.nx s0.nr))(XH:List (FO s0.nx s0.nr)){v:AV}{s2:AS}(R:VX P G l Q r X)
   (h:anb s0.nx s0.nr P fn m .ret [v] (nW Qe) (oX XH) r=some (.ret,n6 l,[v],s2,sI Qe,z8 XH)) (k:R2 P G fn m s0 Q v s2):X:=by
 unfold anb at h;split at h;split at h;rename_i v' hv;split at h;rename_i h1;simp only[Option.some.injEq,Prod.mk.injEq] at h;obtain⟨rfl,rfl,rfl,rfl,rfl,rfl⟩:=h;exact R _ _ _ _ rfl (PO l) (k _ _ (gT hG h1) _ _ hv rfl);cases h;cases h;cases h
def alJ(z:List NZ)(rF:List AV):HR->Option (List Cd×Nat×Code×List KI×List AV×AS)
 | some (.at id c ks,[],cd,fr,s)=>(match nzs z fr s with
   | some (fr2,s2)=>some (cd,id,c,ks,wkF fr2 rF,s2)
   | none=>none)
 | _=>none
def Hb{r:HR}{X:Prop}{Q:AX->List AV->AS->Prop}{l:List (PC P G)}(z:List NZ)(id:Nat)(L:Code)(QX:List KI){fr2:List AV}{s2:AS}(R:VX P G l Q r X)
   (h:alJ z fr2 r=some (n6 l,id,L,QX,fr2,s2)) (k:WL P G (XS P G) H0 L fr2 s2 (ET id (Ej P G QX Q))):X:=by
 unfold alJ at h;split at h;split at h;rename_i fr3 s3 hz;simp only[Option.some.injEq,Prod.mk.injEq] at h;obtain⟨rfl,rfl,rfl,rfl,h5,rfl⟩:=h;refine R _ _ _ _ rfl (PO l) ?_;obtain⟨e3,fr4,s4,h3,h4⟩:=k;refine⟨e3,fr4,s4,.aiT (λcx w vs hs hr=>?_) h3,h4⟩;obtain⟨c2,x2,XW,r2⟩:=qE hz cx w vs hs hr;exact⟨c2,x2,XW,h5▸S0 r2⟩;cases h;cases h
def jv(j:List Value)(k:Nat):Value:=akF j k
def hdv(p:Nat):List (Nat×Value)->Option Value
 | []=>none
 | e::_=>(match Nat.beq e.1 p with | true=>some e.2 | false=>none)
def jsN(j:List Value)(l:List (Nat×Value))(k:Nat):Nat->List Value
 | 0=>[]
 | n+1=>(match hdv k l with
   | some v=>v::jsN j (l.drop 1) (k+1) n
   | none=>jv j k::jsN j l (k+1) n)
def js(n:Nat)(j:List Value)(l:List (Nat×Value)):List Value:=jsN j l 0 n
def frQ:Nat->Nat->List (Nat×AV)->List Nat->Nat->List Value->List AV
 | 0,_,_,_,_,_=>[]
 | n+1,p,l,bs,kb,j=>(match frm.aF p l with
   | some v=>v::frQ n (p+1) (l.drop 1) bs kb j
   | none=>(match frm.fD p bs with
     | true=>.sc (jv j kb)::frQ n (p+1) l (bs.drop 1) (kb+1) j
     | false=>.any::frQ n (p+1) l bs kb j))
def fr(n:Nat)(l:List (Nat×AV))(bs:List Nat)(j:List Value):List AV:=frQ n 0 l bs 0 j
def exR{δ:Type}(Q:AX->List AV->AS->Prop)(id:Nat)(F:δ->List Value->List AV)(S:δ->AS)(d:δ):Prop:=∀j,Q (.exit id) (F d j) (S d)
section loops
variable {α γ δ ρ β:Type} {id:Nat} {L:Code} {QX:List KI} {Q:AX->List AV->AS->Prop} {done:γ->δ} {X:Prop} {k:δ->Option β} {kr:ρ->Option β} {r:β}
def R3(Rv:(AX->List AV->AS->Prop)->ρ->Prop){body:Nat->α->γ->Option (Lp γ δ ρ)}{l:List α}{i0:Nat}{x:γ}(F:Nat->γ->List Value->List AV)(S:γ->AS)(XF:δ->List Value->List AV)(SX:δ->AS)(j:List Value)
   (T9:WL P G (XS P G) H0 L (F i0 x j) (S x) (ET id (Ej P G QX Q))->X)
   (hz:∀i x j,l.length<=i->exR (ET id (Ej P G QX Q)) id XF SX (done x)->W P G (XS P G) H0 L (F i x j) (S x) (Uv P G L (S x) (ET id (Ej P G QX Q))))
   (hs:∀i y x j r,l[i]?=some y->i < l.length->i < 9223372036854775807->RQ (λx'=>∀j',WL P G (XS P G) H0 L (F (i+1) x' j') (S x') (ET id (Ej P G QX Q))) (exR (ET id (Ej P G QX Q)) id XF SX) (Rv (ET id (Ej P G QX Q))) r->body i y x=some r->W P G (XS P G) H0 L (F i x j) (S x) (Uv P G L (S x) (ET id (Ej P G QX Q))))
   (hb:∀d j,k d=some r->Ej P G QX Q .normal (XF d j) (SX d)) (hr:∀v,kr v=some r->Rv (ET id (Ej P G QX Q)) v) :
   (RT l.length (CO body done (l.drop i0) i0 x)).bind (Ma k kr)=some r->X:=λh=>by
 obtain⟨gQ,h1,h2⟩:=eC h;obtain⟨hl,h1⟩:=aku h1;refine T9 (aeL l F (λ_ x _=>S x) (λ_=>True) (exR (ET id (Ej P G QX Q)) id XF SX) (Rv (ET id (Ej P G QX Q))) (λi x j _ h3 h4=>dS (hz i x j h3 h4)) (λi y x j r _ h3 h4 h5 h6=>dS (hs i y x j r h3 h4 (by omega) (by cases r with | nx _=>exact λj'=>h6 j' trivial | ex _=>exact h6 | rt _=>exact h6) h5)) i0 h1 ?_ j trivial)
 cases gQ with
 | inl d =>
   intro j;show Ej P G QX Q (E7 id (.exit id)) _ _;rw[show E7 id (.exit id)=.normal from by simp[E7]];exact hb d j h2
 | inr v=>exact hr v h2
def PB(Rv:(AX->List AV->AS->Prop)->ρ->Prop){body:γ->Option (Lp γ δ ρ)}{x:γ}(F:γ->List Value->List AV)(S:γ->AS)(XF:δ->List Value->List AV)(SX:δ->AS)(j:List Value)
   (T9:WL P G (XS P G) H0 L (F x j) (S x) (ET id (Ej P G QX Q))->X)
   (hs:∀x j r,RQ (λx'=>∀j',WL P G (XS P G) H0 L (F x' j') (S x') (ET id (Ej P G QX Q))) (exR (ET id (Ej P G QX Q)) id XF SX) (Rv (ET id (Ej P G QX Q))) r->body x=some r->W P G (XS P G) H0 L (F x j) (S x) (Uv P G L (S x) (ET id (Ej P G QX Q))))
   (hb:∀d j,k d=some r->Ej P G QX Q .normal (XF d j) (SX d)) (hr:∀v,kr v=some r->Rv (ET id (Ej P G QX Q)) v) :
   (Mh body x).bind (Ma k kr)=some r->X:=λh=>by
 obtain⟨gQ,h1,h2⟩:=eC h;obtain⟨n,h1⟩:=afe h1;refine T9 (aeM F (λx _=>S x) (λ_=>True) (exR (ET id (Ej P G QX Q)) id XF SX) (Rv (ET id (Ej P G QX Q))) (λx j r _ h5 h6=>dS (hs x j r (by cases r with | nx _=>exact λj'=>h6 j' trivial | ex _=>exact h6 | rt _=>exact h6) h5)) n h1 ?_ j trivial)
 cases gQ with
 | inl d =>
   intro j;show Ej P G QX Q (E7 id (.exit id)) _ _;rw[show E7 id (.exit id)=.normal from by simp[E7]];exact hb d j h2
 | inr v=>exact hr v h2
end loops
def IV{ks:List KI}{fr:List AV}{s:AS}{Q:AX->List AV->AS->Prop}(n:Nat)(l:List (PC P G)):VX P G l Q (R5 (T8 P G n) ks .normal (pHs l) fr s) (Ej P G ks Q .normal fr s):=λ_ _ _ _ h hc hk=>fA (fC n) ks _ h hc hk
def pi{i:Nat}(h:i < 9223372036854775807):PC P G:=aqK i h
def bp{n m:Nat}{a:List AV}(h:BN a=true):FO n m:=some ⟨.cells a,.cells a,.cells (.plain h)⟩
def bu{n m:Nat}(a:List AV)(h:FJ n m a=true):FO n m:=some ⟨.cells a,.cells a,.cells (.under h)⟩
def bw{n m:Nat}(a b:Bl)(h:TD n m a b):FO n m:=some ⟨a,b,h⟩
end
end AI
namespace AI
open Go Go.RowKit
section
variable {P:Program} {G:Bc}
def ahT(G:Bc)(s:AS)(a v:AV):Prop:=∀(c:Cx) (w:World) (u:Value),St G c w s->(∀g,some g∈c.DA->∀i,¬c.bad g i)->Rp c w a u->Rp (c.upto 0 0) w v u
inductive Fz(s:AS):List AV->List AV->Prop where
 | nil:Fz s [] []
 | r {a b:AV} {l k:List AV} (h:Fits 0 0 a b) (t:Fz s l k):Fz s (a::l) (b::k)
 | f {id n:Nat} {cs l k:List AV} (h:s.get id=some (.cells cs)) (hp:BN cs=true) (t:Fz s l k):Fz s (.Oo id 0 n::l) (.sl .lost n cs::k)
 | g {cs ds l k:List AV} (h:Fz s cs ds) (t:Fz s l k):Fz s (.agg cs::l) (.agg ds::k)
 | u {cs ds l k:List AV} (h:Fz s cs ds) (t:Fz s l k):Fz s (.C6 cs::l) (.C6 ds::k)
def Fz.ok{s:AS}{c:Cx}{w:World}(hs:St G c w s)(hb:∀g,some g∈c.DA->∀i,¬c.bad g i){l k:List AV}(h:Fz s l k):∀{us:List Value},CY c w l us->CY (c.upto 0 0) w k us:=by
 induction h with
 | nil=>intro us hr;cases hr;exact .nil
 | r h _ ih=>intro us hr;cases hr with | cons h1 t=>exact .cons (h _ _ _ h1) (ih t)
 | @f id n cs l k h hp _ ih =>
   intro us hr;cases hr with
   | cons h1 t =>
     refine .cons ?_ (ih t);cases h1 with
     | @Oo _ _ _ g cap hn hid =>
       obtain⟨vs,ext,T,hw,hv⟩:=S6 hs hid h;have hg:=List.mem_of_getElem? hid
       have NH:∀g i v,P3 c w g i v->P3 (c.upto 0 0) w g i v:=λg i v hv=>⟨hv.1,λKr=>by
         rcases Kr with Kr | ⟨r,n',CC,P5,hr,_⟩ | Kr
         simp[Cx.upto] at Kr;simp[Cx.upto] at hr;exact hv.2.1 (.inr (.inr Kr)),hv.2.2⟩
       refine .No hn (Bk.Rj (CY.plain NH hp hv) (λi v hi=>?_)) trivial;rw[Nat.zero_add];refine⟨hs.O2 g hg,λKr=>?_,cell_of_heap hw (XD hi)⟩;rcases Kr with Kr | ⟨r,n',CC,P5,hr,_⟩ | Kr
       simp[Cx.upto] at Kr;simp[Cx.upto] at hr;exact hb g hg i Kr
 | g _ _ pU ih2=>intro us hr;cases hr with | cons h1 t=>cases h1 with | agg h2=>exact .cons (.agg (pU h2)) (ih2 t)
 | u _ _ pU ih2=>intro us hr;cases hr with | cons h1 t=>cases h1 with | C6 h2=>exact .cons (.C6 (pU h2)) (ih2 t)
def ahT.of{s:AS}{a v:AV}(h:Fz s [a] [v]):ahT G s a v:=λc w u hs hb hr=>by
 have:=h.ok hs hb (.cons hr .nil);cases this with
 | cons h1 _=>exact h1
end
end AI
namespace AI
open Go
end AI
namespace AI
open Go Go.RowKit
end AI
namespace AI
open Go Go.RowKit
abbrev EW:=Cx->World->Prop
abbrev QE:=AX->List AV->AS->EW->Prop
def EOk(e:AX)(fr:List AV)(c:Cx)(w:World)(e':Exit)(a:Act):Prop:=match e with
 | .normal=>e'=.normal/\CY c w fr a.tmps.toList
 | .exit id=>e'=.exit id/\CY c w fr a.tmps.toList
 | .ret=>e'=.ret/\CY c w fr a.tmps.toList
 | .JK v=>∃u,e'=.panic [{ v:=u,recovered:=false }]/\Rp c w v u
def EPost(G:Bc)(Q:QE)(K:Exit->Act->World->Prop):Prop:=∀e fr s E,Q e fr s E->∀(cx:Cx) (w:World) (a:Act) (e':Exit),E cx w->St G cx w s->a.defers=[]->EOk e fr cx w e' a->K e' a w
def WE(P:Program)(G:Bc)(E:EW)(c:Code)(fr:List AV)(s:AS)(Q:QE):Prop:=∀(cx:Cx) (w:World) (a:Act) (K:Exit->Act->World->Prop),E cx w->St G cx w s->CY cx w fr a.tmps.toList->a.defers=[]->EPost G Q K->c.wp P K a w
def UJ(P:Program)(G:Bc)(E:EW)(ops:Array Oper)(l:List Nat)(fr:List AV)(s:AS)(Q:QE):Prop:=∀(cx:Cx) (w:World) (a:Act) (K:Exit->Act->World->Prop),E cx w->St G cx w s->CY cx w fr a.tmps.toList->a.defers=[]->EPost G Q K->wpOps P ops K l a w
def WI(E:EW):Prop:=∀(cx:Cx) (w:World) (R4:Cx) (w':World),E cx w->Ext cx w R4 w'->E R4 w'
def EOk.Qq{e:AX}{fr:List AV}{c:Cx}{w:World}{e':Exit}{a:Act}(h:EOk e fr c w e' a)(he:e≠.normal):e'≠.normal:=by
 cases e with
 | normal=>exact absurd rfl he
 | exit id=>intro h5;rw[h.1] at h5;cases h5
 | ret=>intro h5;rw[h.1] at h5;cases h5
 | JK v=>obtain⟨u,h5,_⟩:=h;intro h6;rw[h5] at h6;cases h6
section
variable {P:Program} {G:Bc} {E:EW} {fr:List AV} {s:AS} {Q:QE}
def WE.of(hm:P.follows .mixedOrders=true)(hk:WI E){c:Code}{Q0:AX->List AV->AS->Prop}(h:W P G (XS P G) H0 c fr s Q0)(hQ:∀e Cp s',Q0 e Cp s'->Q e Cp s' E):WE P G E c fr s Q:=by
 obtain⟨e,Cp,s',hj,hq⟩:=h;have hS:=sound (T7 hm) hj;intro cx w a K hE hs hf hd hK;refine hS cx w a K hs hf hd ?_;rintro e' a' w' ⟨c',hx,CX,Tc,h4⟩;refine hK e Cp s' E (hQ _ _ _ hq) c' w' a' e' (hk _ _ _ _ hE hx) CX Tc ?_;cases e<;>exact h4
def WE.seq{x y:Code}(h:WE P G E x fr s (λe Cp s' E'=>(e=.normal/\WE P G E' y Cp s' Q)\/(e≠.normal/\Q e Cp s' E'))):WE P G E (.seq x y) fr s Q:=by
 intro cx w a K hE hs hf hd hK;refine wp_seq (h cx w a _ hE hs hf hd ?_);rintro e Cp s' E' hq R4 w' a' e' oZ CX Tc XK;rcases hq with ⟨rfl,h2⟩ | ⟨KE,hq⟩
 obtain⟨rfl,YS⟩:=XK;exact h2 R4 w' a' K oZ CX YS Tc hK;exact VE (XK.Qq KE) (hK _ _ _ _ hq _ _ _ _ oZ CX Tc XK)
def WE.cond{q:Operand}{x y:Code}{t:Bool}(hq:Bg G fr q=some (.sc (.bool t)))(h:WE P G E (if t then x else y) fr s Q):WE P G E (.cond q x y) fr s Q:=by
 intro cx w a K hE hs hf hd hK;have hr:=Gm hs hf hq
 have I6:a.eval q=.bool t:=by
   generalize a.eval q=v at hr;cases hr;rfl
 exact wp_cond I6 (h cx w a K hE hs hf hd hK)
def WE.skip(h:Q .normal fr s E):WE P G E .skip fr s Q:=λcx w a K hE hs hf hd hK=>wp_skip (hK _ _ _ _ h cx w a _ hE hs hd ⟨rfl,hf⟩)
def WE.exit{id:Nat}(h:Q (.exit id) fr s E):WE P G E (.exit id) fr s Q:=λcx w a K hE hs hf hd hK=>wp_exit (hK _ _ _ _ h cx w a _ hE hs hd ⟨rfl,hf⟩)
def WE.block{id:Nat}{c:Code}(h:WE P G E c fr s (λe Cp s' E'=>Q (E7 id e) Cp s' E')):WE P G E (.block id c) fr s Q:=by
 intro cx w a K hE hs hf hd hK;refine wp_block (h cx w a _ hE hs hf hd ?_);rintro e Cp s' E' hq R4 w' a' e' oZ CX Tc h4;cases e with
 | normal=>obtain⟨rfl,h5⟩:=h4;exact hK _ _ _ _ hq R4 w' a' _ oZ CX Tc ⟨rfl,h5⟩
 | exit RN =>
   obtain⟨rfl,h5⟩:=h4;show if RN=id then K .normal a' w' else K (.exit RN) a' w'
   by_cases hid:RN=id;rw[if_pos hid];refine hK _ _ _ _ hq R4 w' a' _ oZ CX Tc ?_;simp only[E7,hid,if_true];exact⟨rfl,h5⟩;rw[if_neg hid];refine hK _ _ _ _ hq R4 w' a' _ oZ CX Tc ?_;simp only[E7,hid,if_false];exact⟨rfl,h5⟩
 | ret=>obtain⟨rfl,h5⟩:=h4;exact hK _ _ _ _ hq R4 w' a' _ oZ CX Tc ⟨rfl,h5⟩
 | JK v=>obtain⟨u,rfl,h5⟩:=h4;exact hK _ _ _ _ hq R4 w' a' _ oZ CX Tc ⟨u,rfl,h5⟩
def WE.loop{L:Code}(I:Nat->List AV->AS->EW->Prop)(h:∀m fr s E,I m fr s E->WE P G E L fr s (λe Cp s' E'=>(e=.normal/\∃m',m' < m/\I m' Cp s' E')\/(e≠.normal/\Q e Cp s' E'))){m:Nat}(hi:I m fr s E):WE P G E (.loop L) fr s Q:=by
 have key:∀(n m:Nat) (fr:List AV) (s:AS) (E:EW),m < n->I m fr s E->∀(cx:Cx) (w:World) (a:Act) (K:Exit->Act->World->Prop),E cx w->St G cx w s->CY cx w fr a.tmps.toList->a.defers=[]->EPost G Q K->Code.rounds P L K n a w:=by
   intro n
   induction n with
   | zero=>intro m fr s E hm;omega
   | succ n ih =>
     intro m fr s E hm hi cx w a K hE hs hf hd hK;rw[rounds_succ];refine h m fr s E hi cx w a _ hE hs hf hd ?_;rintro e Cp s' E' hq R4 w' a' e' oZ CX Tc XK;rcases hq with ⟨rfl,m',nY,NF⟩ | ⟨KE,hq⟩
     obtain⟨rfl,YS⟩:=XK;exact ih m' Cp s' E' (by omega) NF R4 w' a' K oZ CX YS Tc hK;exact VE (XK.Qq KE) (hK _ _ _ _ hq _ _ _ _ oZ CX Tc XK)
 intro cx w a K hE hs hf hd hK;exact wp_loop_rounds (m+1) (key (m+1) m fr s E (Nat.lt_succ_self m) hi cx w a K hE hs hf hd hK)
def WE.region{id:Nat}{ops:Array Oper}(h:UJ P G E ops (List.range ops.size) fr s Q):WE P G E (.region id ops false) fr s Q:=λcx w a K hE hs hf hd hK=>wp_region (h cx w a K hE hs hf hd hK)
def UJ.nil{ops:Array Oper}(h:Q .normal fr s E):UJ P G E ops [] fr s Q:=λcx w a K hE hs hf hd hK=>hK _ _ _ _ h cx w a .normal hE hs hd ⟨rfl,hf⟩
def UJ.op(hm:P.follows .mixedOrders=true)(hk:WI E){ops:Array Oper}{i:Nat}{l:List Nat}{o:Oper}(v:AV){s1:AS}(ho:ops[i]?=some o)(hj:J P G (XS P G) H0 (.op ops o fr s (.ret v) s1))(t:UJ P G E ops l (JE fr o.dst v) s1 Q):UJ P G E ops (i::l) fr s Q:=by
 intro cx w a K hE hs hf hd hK;refine QU ho (sound (T7 hm) hj cx w a _ _ hs (λx _=>gE hs hf x) (N9 (c:=cx) (w:=w) (λ_ _ _ _ _=>⟨fr,hf,rfl⟩)) ?_);intro u w' c' hx CX hu;exact t c' w' (a.put o.dst u) K (hk _ _ _ _ hE hx) CX (S4 (hf.mono hx) hu) (by cases o.dst<;>exact hd) hK
def UJ.sem{E':EW}{ops:Array Oper}{i:Nat}{l:List Nat}{o:Oper}{fr2:List AV}(v:AV){s2:AS}(ho:ops[i]?=some o)(hg:o.guard=none)
   (h:∀(cx:Cx) (w:World) (a:Act),E cx w->St G cx w s->CY cx w fr a.tmps.toList->∃u w' R4,(execOp a.eval o).run P w=.ok (.value u) w'/\E' R4 w'/\St G R4 w' s2/\CY R4 w' fr2 a.tmps.toList/\Rp R4 w' v u)
   (t:UJ P G E' ops l (JE fr2 o.dst v) s2 Q):UJ P G E ops (i::l) fr s Q:=by
 intro cx w a K hE hs hf hd hK;refine QU ho ?_;obtain⟨u,w',R4,hr,oZ,CX,YS,hu⟩:=h cx w a hE hs hf;unfold OV;have hw:Region.wanted o (yielded ops a.tmps)=true:=by unfold Region.wanted;rw[hg]
 rw[hw];simp only[if_true];unfold Oper.wp;rw[hr];exact t R4 w' (a.put o.dst u) K oZ CX (S4 YS hu) (by cases o.dst<;>exact hd) hK
end
def aou(b:Nat)(B:Nat->Nat->Prop)(w0:World)(E:EW):Prop:=∀(c:Cx) (w:World),E c w->c.base=b/\Below b w0 w/\(∀g i,B g i->c.bad g i)/\∀g i,some g∈c.DA->c.bad g i->g < b
def E0(b:Nat)(B:Nat->Nat->Prop)(w0:World):EW:=λc w=>c.base=b/\c.bad=B/\Below b w0 w
def E0.Vi{b:Nat}{B:Nat->Nat->Prop}{w0:World}:WI (E0 b B w0):=λcx w R4 w' h hx=>⟨hx.base.trans h.1,hx.bad.trans h.2.1,h.2.2.trans (by have:=hx.below;rw[h.1] at this;exact this)⟩
end AI
namespace AI
open Go Go.RowKit
def IU:Code->Array Oper
 | .region _ ops _=>ops
 | _=>#[]
def gL:Code->Nat->Bool
 | .region _ ops d,n=>(match d with
   | false=>Nat.beq ops.size n
   | true=>false)
 | _,_=>false
def aqD:Oper:={ dst:=none,op:=.move (.tmp 0),type:=0,pos:="",after:=#[],guard:=none }
def opAt(c:Code)(i:Nat):Oper:=((IU c)[i]?).getD aqD
def agj{c:Code}{n:Nat}(h:gL c n=true):(∃id,c=.region id (IU c) false)/\(IU c).size=n:=by
 unfold gL at h;split at h;rename_i id ops d;split at h;exact⟨⟨id,rfl⟩,Nat.eq_of_beq_eq_true h⟩;cases h;cases h
def Qt{c:Code}{n i:Nat}(h:gL c n=true)(hi:i < n):(IU c)[i]?=some (opAt c i):=by
 have:=(agj h).2;unfold opAt;rw[Array.getElem?_eq_getElem (by omega)];rfl
def tI(o:Oper):Option (Operand×TypeId):=match o.guard with
 | none=>(match o.op with
   | .call cl=>(match cl.callee with
     | .builtin .len=>(match cl.args.toList with
       | [x]=>(match cl.argTypes.toList with
         | [t]=>some (x,t)
         | _=>none)
       | _=>none)
     | _=>none)
   | _=>none)
 | some _=>none
def jC(o:Oper):Option (Operand×Operand×TypeId×TypeId):=match o.guard with
 | none=>(match o.op with
   | .call cl=>(match cl.callee with
     | .builtin .append=>(match cl.args.toList with
       | [x,y]=>(match cl.argTypes.toList with
         | [t,tx]=>some (x,y,t,tx)
         | _=>none)
       | _=>none)
     | _=>none)
   | _=>none)
 | some _=>none
def aeU(o:Oper):Option (TypeId×Operand):=match o.guard with
 | none=>(match o.op with
   | .buildSlice t n ps=>(match n with
     | 1=>(match ps.toList with
       | [(0,x)]=>some (t,x)
       | _=>none)
     | _=>none)
   | _=>none)
 | some _=>none
section
variable {P:Program} {w:World} {ρ:Operand->Value} {o:Oper}
def xB{x:Operand}{t e:TypeId}{A:Option Addr}{n cap:Nat}(h:tI o=some (x,t))(hu:P.underlying t=some (.slice e))(ha:ρ x=.slice A n cap):o.guard=none/\(execOp ρ o).run P w=.ok (.value (.int .i64 n)) w:=by
 unfold tI at h;split at h;rename_i hg;refine⟨hg,?_⟩;split at h;rename_i cl ho;split at h;rename_i Ii;split at h;rename_i x' hx;split at h;rename_i t' ht;cases h;have e1:cl.args=#[x]:=by apply Array.ext';rw[hx]
 have e2:cl.argTypes=#[t]:=by apply Array.ext';rw[ht]
 simp[execOp,ho,resolve,Ii,e1,e2,invoke,builtin,ha,Builtin.len_,run_underlying hu,goInt];cases h;cases h;cases h;cases h;cases h
def bA{x y:Operand}{t tx:TypeId}{u:Value}{w':World}(h:jC o=some (x,y,t,tx))(hr:∀ty,(Builtin.append_ #[t,tx] ty #[ρ x,ρ y]).run P w=.ok u w'):o.guard=none/\(execOp ρ o).run P w=.ok (.value u) w':=by
 unfold jC at h;split at h;rename_i hg;refine⟨hg,?_⟩;split at h;rename_i cl ho;split at h;rename_i Ii;split at h;rename_i x' y' hx;split at h;rename_i t' tx' ht;cases h;have e1:cl.args=#[x,y]:=by apply Array.ext';rw[hx]
 have e2:cl.argTypes=#[t,tx]:=by apply Array.ext';rw[ht]
 simp[execOp,ho,resolve,Ii,e1,e2,invoke,builtin,hr];cases h;cases h;cases h;cases h;cases h
def jD{q:Operand×Operand×TypeId×TypeId}(h:jC o=some q):o.guard=none:=by
 unfold jC at h;split at h;rename_i hg;exact hg;cases h
def aas{x:Operand}{t e:TypeId}{i:TypeInfo}{z:Value}(h:aeU o=some (t,x))(hu:P.underlying t=some (.slice e))(hi:P.info? e=some i)(hs:i.size=1)(hz:i.zero=some z)(hzs:z.cells.size=1)(hv:(ρ x).cells=#[ρ x]):o.guard=none/\(execOp ρ o).run P w=.ok (.value (.slice (some ⟨w.heap.size,0,none⟩) 1 1)) { w with heap:=w.heap.push (.cells #[ρ x] e) }:=by
 unfold aeU at h;split at h;rename_i hg;refine⟨hg,?_⟩;split at h;rename_i t' n ps ho;split at h;split at h;rename_i x' s6;cases h;have e1:ps=#[(0,x)]:=by apply Array.ext';rw[s6]
 have hf:∀B:Array Value,B.size=1->Instr.fill (λi=>some (i,1)) B [(0,ρ x)]=some #[ρ x]:=by
   intro B hB;obtain⟨b,rfl⟩:=Array.size_eq_one_iff.1 hB;simp[Instr.fill,hv]
 have h2:=hf ((Array.range 1).map (z.cells[· % z.cells.size]!)) (by simp);simp only[execOp,ho,e1,Instr.buildSlice,Sem.run_bind,run_underlying hu,Result.andThen_ok,C7 hi,hs,Sem.run_ite,zeroValue,typeInfo,run_program,hi,hz,Sem.run_pure,List.map_toArray,List.map_cons,List.map_nil,Nat.mul_one,Nat.one_ne_zero,if_false,gt_iff_lt,show ¬(2 ^ 24 < 1) from by decide,newRow];rw[h2];simp;cases h;cases h;cases h;cases h
end
end AI
namespace AI
open Go Go.RowKit
def lG(ps:List (Nat×Nat)):List AV:=ps.map λp=>.ptr p.1 p.2
def xQ(ps:List (Nat×Nat)):(lG ps).length=ps.length:=by simp[lG]
def dR(b:Nat)(B:Nat->Nat->Prop)(w0:World)(g cap:Nat)(ps:List (Nat×Nat)):EW:=λc w =>
 c.base=b/\Below b w0 w/\(∀g' i,c.bad g' i↔(B g' i\/g'=g))/\b<=g/\some g∉c.DA/\(∀(r:Nat) n CC sz,c.rows[r]?≠some (.Sd g n CC sz)) /\
 ∃(vs ext:List Value) (T:TypeId),w.heap[g]?=some (.cells (vs++ext).toArray T (0,0))/\vs.length+ext.length=cap/\CY c w (lG ps) vs
def dR.Vi{b:Nat}{B:Nat->Nat->Prop}{w0:World}{g cap:Nat}{ps:List (Nat×Nat)}:WI (dR b B w0 g cap ps):=by
 rintro cx w R4 w' ⟨h1,h2,h3,h4,h5,h6,vs,ext,T,h7,h8,h9⟩ hx;have hg:g < w.heap.size:=(Array.getElem?_eq_some_iff.1 h7).1;refine⟨hx.base.trans h1,h2.trans (by have:=hx.below;rwa[h1] at this),λg' i=>by rw[hx.bad];exact h3 g' i,h4,λhm=>?_,λr n CC sz hr=>?_,vs,ext,T,by rw[hx.Vi g hg h5 h6];exact h7,h8,h9.mono hx⟩;rcases hx.lF g hm with h | h
 exact h5 h;omega;rcases hx.lU r g n CC sz hr with ⟨r0,n0,Sx,mN,h⟩ | h
 exact h6 _ _ _ _ h;omega
def dR.fin{b:Nat}{B:Nat->Nat->Prop}{w0:World}{g cap:Nat}{ps:List (Nat×Nat)}(hB:∀g i,B g i->g < b):aou b B w0 (dR b B w0 g cap ps):=by
 rintro c w ⟨h1,h2,h3,h4,h5,_⟩;refine⟨h1,h2,λg' i hb=>(h3 g' i).2 (.inl hb),λg' i hg hb=>?_⟩;rcases(h3 g' i).1 hb with h | rfl
 exact hB g' i h;exact absurd hg h5
def St.move{G:Bc}{c c':Cx}{w w':World}{s:AS}(h:St G c w s)(hm:Mon c w c' w')(Ub:c'.DA=c.DA)(tA:c'.rows=c.rows)(abu:c'.base=c.base)
   (aih:∀k,k < w.heap.size->(some k∈c.DA\/∃(r:Nat) (n cap sz:Nat),c.rows[r]?=some (.Sd k n cap sz))->w'.heap[k]?=w.heap[k]?) (aio:w.heap.size<=w'.heap.size)
   (NE:∀g i,c'.bad g i->(c.bad g i\/w.heap.size<=g)/\g < w'.heap.size):St G c' w' s:=by
 refine⟨by rw[Ub];exact h.len,h.desc,by rw[Ub];exact h.nodup,by rw[Ub,abu];exact h.low,λid g b h1 h2=>?_,by rw[tA];exact h.J6,λr g n cap sz hr=>?_,by rw[tA];exact h.Kw,λg hg=>Nat.lt_of_lt_of_le (h.O2 g (by rwa[Ub] at hg)) aio,λg i hb=>(NE g i hb).2,by rw[tA];exact h.J2,λg cs hg=>(h.PH g cs hg).DD hm,by rw[abu];exact Nat.le_trans h.Su aio⟩;rw[Ub] at h1;obtain⟨o,ho,hb⟩:=h.box id g b h1 h2;exact⟨o,by rw[aih g (Array.getElem?_eq_some_iff.1 ho).1 (.inl (List.mem_of_getElem? h1))];exact ho,hb.DD hm⟩;rw[tA] at hr;obtain⟨a1,a2,a3,a4,vs,T,a5,a6⟩:=h.row r g n cap sz hr;have GM:=h.Rt hr;refine⟨λi hb=>?_,by rw[abu];exact a2,by rw[Ub];exact a3,a4,vs,T,by rw[aih g GM (.inr ⟨r,n,cap,sz,hr⟩)];exact a5,a6⟩;rcases(NE g i hb).1 with h1 | h1
 exact a1 i h1;omega
section
variable {P:Program} {G:Bc} {E:EW} {fr:List AV} {s:AS} {Q:QE}
def UJ.ank{ι:Type}{E':ι->EW}{ops:Array Oper}{i:Nat}{l:List Nat}{o:Oper}{fr2:List AV}(v:ι->AV){s2:AS}(ho:ops[i]?=some o)(hg:o.guard=none)
   (h:∀(cx:Cx) (w:World) (a:Act),E cx w->St G cx w s->CY cx w fr a.tmps.toList->∃x u w' R4,(execOp a.eval o).run P w=.ok (.value u) w'/\E' x R4 w'/\St G R4 w' s2/\CY R4 w' fr2 a.tmps.toList/\Rp R4 w' (v x) u)
   (t:∀x,UJ P G (E' x) ops l (JE fr2 o.dst (v x)) s2 Q):UJ P G E ops (i::l) fr s Q:=by
 intro cx w a K hE hs hf hd hK;refine QU ho ?_;obtain⟨x,u,w',R4,hr,oZ,CX,YS,hu⟩:=h cx w a hE hs hf;unfold OV;have hw:Region.wanted o (yielded ops a.tmps)=true:=by unfold Region.wanted;rw[hg]
 rw[hw];simp only[if_true];unfold Oper.wp;rw[hr];exact t x R4 w' (a.put o.dst u) K oZ CX (S4 YS hu) (by cases o.dst<;>exact hd) hK
variable {c:Code} {n i:Nat} {l:List Nat}
def UJ.len{x:Operand}{t e:TypeId}{A:Option Addr}{k cap:Nat}(hr:gL c n=true)(hi:i < n)(h:tI (opAt c i)=some (x,t))(hu:P.underlying t=some (.slice e))(ha:Bg G fr x=some (.raw A k cap))
   (j:UJ P G E (IU c) l (JE fr (opAt c i).dst (.sc (.int .i64 k))) s Q):UJ P G E (IU c) (i::l) fr s Q:=by
 have hgd:(opAt c i).guard=none:=by
   unfold tI at h;split at h;rename_i hg;exact hg;cases h
 refine .sem (.sc (.int .i64 k)) (Qt hr hi) hgd (λcx w a hE hs hf=>?_) j;have hv:=Gm hs hf ha;generalize hq:a.eval x=v at hv;cases hv;exact⟨_,w,cx,(xB h hu hq).2,hE,hs,hf,.sc rfl⟩
variable {b g cap:Nat} {B:Nat->Nat->Prop} {w0:World} {ps:List (Nat×Nat)} {p:Nat×Nat}
def UJ.push{t tx e e2 id off:TypeId}{x y:Operand}(hr:gL c n=true)(hi:i < n)(h:jC (opAt c i)=some (x,y,t,tx))(hu:P.underlying t=some (.slice e))(hux:P.underlying tx=some (.slice e2))
   (he:(P.info? e).map (λi=>(i.size,decide (i.bytes<=10000),i.zero.map (·.cells.size)))=some (1,true,some 1)) (ha:Bg G fr x=some (.raw (some ⟨g,0,none⟩) ps.length cap)) (hy:Bg G fr y=some (.sl .full 1 [.ptr id off])) (hlen:ps.length+1<=100000000)
   (j:∀g' CC,UJ P G (dR b B w0 g' CC (ps++[(id,off)])) (IU c) l (JE fr (opAt c i).dst (.raw (some ⟨g',0,none⟩) (ps++[(id,off)]).length CC)) s Q):UJ P G (dR b B w0 g cap ps) (IU c) (i::l) fr s Q:=by
 cases hie:P.info? e with
 | none=>rw[hie] at he;cases he
 | some ie =>
 rw[hie] at he;simp only[Option.map_some,Option.some.injEq,Prod.mk.injEq,decide_eq_true_eq] at he;obtain⟨Qi,hby,hzz⟩:=he;obtain⟨z,hz,hzs⟩:=Option.map_eq_some_iff.1 hzz;refine .ank (ι:=Nat×Nat) (E':=λq=>dR b B w0 q.1 q.2 (ps++[(id,off)])) (λq=>.raw (some ⟨q.1,0,none⟩) (ps++[(id,off)]).length q.2) (Qt hr hi) (jD h) (λcx w a hE hs hf=>?_) (λq=>j q.1 q.2);have hva:=Gm hs hf ha;have hvy:=Gm hs hf hy;generalize hqa:a.eval x=va at hva;generalize hqy:a.eval y=vy at hvy;cases hva;obtain⟨h1,h2,h3,h4,h5,h6,vs,ext,T,h7,h8,h9⟩:=hE;have hg:g < w.heap.size:=(Array.getElem?_eq_some_iff.1 h7).1;have hl:=h9.len;rw[xQ] at hl;obtain⟨news,hnr,VU,hsi⟩:=rW (P:=P) (s:=s) (size:=ie.size) (tx:=tx) (n:=1) (cs:=[.ptr id off]) hs (by unfold jG;rw[hux,Qi];rfl) hvy;rw[Qi,Nat.mul_one] at VU;have ap7:∀g' i v,P3 cx w g' i v->g'≠g:=λg' i v hv e=>hv.2.1 (.inr (.inr ((h3 g' i).2 (.inr e))))
 have aij:∀{R4:Cx} {w':World},Mon cx w R4 w'->CY R4 w' (lG (ps++[(id,off)])) (vs++news):=λhm=>by
   unfold lG at h9 ⊢;rw[List.map_append];exact(h9.DD hm).append (hnr.DD hm)
 by_cases Ve:ps.length+1<=cap;have afw:ps.length+news.length<=(vs++ext).toArray.size:=by rw[VU,List.size_toArray,List.length_append];omega
 have Gz:=run_storeCells_at P g ps.length T news 0 (vs++ext).toArray w h7 (by simpa using afw) (XP hnr rfl)
 simp only[Nat.add_zero] at Gz;have Ua:=setRow_heap w g (vs++ext).toArray ((vs++ext).toArray.toList.take ps.length++news++(vs++ext).toArray.toList.drop (ps.length+news.length)).toArray T (0,0) h7;have hc:=Hz w g ((vs++ext).toArray.toList.take ps.length++news++(vs++ext).toArray.toList.drop (ps.length+news.length)).toArray
 have ajM:((vs++ext).toArray.toList.take ps.length++news++(vs++ext).toArray.toList.drop (ps.length+news.length))=(vs++news)++ext.drop 1:=by
   simp only[List.toList_toArray];rw[List.take_left' hl,VU,List.drop_append];rw[List.drop_eq_nil_of_le (by omega),List.nil_append,show ps.length+1 - vs.length=1 by omega]
 rw[ajM] at Ua Gz hc;have hm:Mon cx w cx (w.setRow g ((vs++news)++ext.drop 1).toArray):=⟨λ_ _ h=>h,Nat.le_refl _,λr y _ h=>⟨y,h,Lq.refl y⟩,λg' i v hv=>⟨Nat.lt_of_lt_of_le hv.1 hc.size,hv.2.1,by rw[hc.cell hv.1 (ap7 g' i v hv)];exact hv.2.2⟩⟩
 refine⟨(g,cap),_,_,cx,(bA h (λty=>by
   rw[hqa,hqy];exact Rx (ty:=ty) hu hie hsi Ve (w':=w.setRow g ((vs++news)++ext.drop 1).toArray) (λa ha=>by cases ha;rw[add_lit,Nat.zero_add,Qi,Nat.mul_one];exact Gz) (λh=>by cases h))).2,⟨h1,h2.trans (hc.below (by rw[<- h1];exact hs.Su) (λk hk=>by rw[hk];exact h4)),h3,h4,h5,h6,vs++news,ext.drop 1,T,Ua,?_,aij hm⟩,hs.move hm rfl rfl rfl (λk hk hor=>hc.block k hk (λe=>?_)) hc.size (λg' i hb=>⟨.inl hb,Nat.lt_of_lt_of_le (hs.OW g' i hb) hc.size⟩),hf.DD hm,?_⟩
 rw[List.length_append,List.length_drop];omega;subst e;rcases hor with h | ⟨r,n',CC,sz,h⟩
 exact h5 h;exact h6 _ _ _ _ h;rw[List.length_append];exact .raw
 have hfc:(Builtin.firstCells ie.size ps.length (.slice (some ⟨g,0,none⟩) ps.length cap)).run P { w with drawn:=w.drawn+1 }=.ok vs.toArray { w with drawn:=w.drawn+1 }:=by
   rw[Qi];refine run_firstCells_some { w with drawn:=w.drawn+1 } 1 ps.length ⟨g,0,none⟩ ps.length cap vs (by omega) (λj v hj=>?_)
   rw[add_lit,Nat.zero_add];exact cell_of_heap h7 (XD hj)
 have ajL:(ps.length+1)*ie.bytes<=140737488355328:=Nat.le_trans (Nat.mul_le_mul hlen hby) (by decide)
 have hex:∃CC,ps.length+1<=CC/\∀ty,(Builtin.append_ #[t,tx] ty #[.slice (some ⟨g,0,none⟩) ps.length cap,vy]).run P w=.ok (.slice (some ⟨w.heap.size,0,none⟩) (ps.length+1) CC) { w with drawn:=w.drawn+1,heap:=w.heap.push (.cells ((vs++news).toArray++Builtin.zeroCells z.cells (CC - (ps.length+1))) e) }:=by
   obtain⟨CC,hc',Vf⟩:=VB (ty:=0) hu hie hz hsi hfc (by omega) (by omega) ajL;exact⟨CC,hc',λty=>Vf⟩
 obtain⟨CC,sU,Vf⟩:=hex;have hzc:(Builtin.zeroCells z.cells (CC - (ps.length+1))).size=CC - (ps.length+1):=by rw[size_zeroCells,hzs,Nat.mul_one]
 let w':World:={ w with drawn:=w.drawn+1,heap:=w.heap.push (.cells ((vs++news).toArray++Builtin.zeroCells z.cells (CC - (ps.length+1))) e) }
 have hk:S2 w w' (λ_=>False):=⟨rfl,rfl,rfl,by simp[w'],λk hk _=>by simp[w',Array.getElem?_push];intro h;omega⟩
 have Ua:w'.heap[w.heap.size]?=some (.cells ((vs++news)++(Builtin.zeroCells z.cells (CC - (ps.length+1))).toList).toArray e (0,0)):=by
   have:w'.heap[w.heap.size]?=some (.cells ((vs++news).toArray++Builtin.zeroCells z.cells (CC - (ps.length+1))) e (0,0)):=by simp[w']
   rw[this];congr 2;apply Array.ext';simp
 let R4:Cx:={ cx with bad:=λg' i=>B g' i\/g'=w.heap.size }
 have hBs:∀g' i,B g' i->g' < w.heap.size:=λg' i hb=>hs.OW g' i ((h3 g' i).2 (.inl hb));have hm:Mon cx w R4 w':=⟨λ_ _ h=>h,Nat.le_refl _,λr y _ h=>⟨y,h,Lq.refl y⟩,λg' i v hv=>⟨Nat.lt_of_lt_of_le hv.1 hk.size,λKr=>?_,by rw[hk.cell hv.1 not_false];exact hv.2.2⟩⟩;have aqb:w'.heap.size=w.heap.size+1:=by simp[w']
 refine⟨(w.heap.size,CC),_,w',R4,(bA h (λty=>by rw[hqa,hqy];exact Vf ty)).2,⟨h1,h2.trans (hk.below (by rw[<- h1];exact hs.Su) (λ_ h=>h.elim)),λ_ _=>Iff.rfl,by rw[<- h1];exact hs.Su,λnY=>?_,λr n' c' sz Z6=>?_,vs++news,_,e,Ua,?_,aij hm⟩,hs.move hm rfl rfl rfl (λk hk' _=>hk.block k hk' not_false) hk.size (λg' i hb=>?_),hf.DD hm,?_⟩;have:=hs.O2 _ nY;omega;have:=hs.Rt Z6;omega;have hz3:(Builtin.zeroCells z.cells (CC - (ps.length+1))).toList.length=CC - (ps.length+1):=by rw[Array.length_toList,hzc]
 show(vs++news).length+_=CC;rw[hz3,List.length_append];omega;rcases hb with hb | rfl
 exact⟨.inl ((h3 g' i).2 (.inl hb)),by have:=hBs g' i hb;omega⟩;exact⟨.inr (Nat.le_refl _),by omega⟩;rw[List.length_append];exact .raw;rcases Kr with Kr | Kr | Kr
 exact hv.2.1 (.inl Kr);exact hv.2.1 (.inr (.inl Kr));rcases Kr with Kr | Kr
 exact hv.2.1 (.inr (.inr ((h3 g' i).2 (.inl Kr))));have:=hv.1;omega
def UJ.begin{t e id off:TypeId}{x:Operand}(hr:gL c n=true)(hi:i < n)(h:aeU (opAt c i)=some (t,x))(hu:P.underlying t=some (.slice e))(he:(P.info? e).map (λi=>(i.size,i.zero.map (·.cells.size)))=some (1,some 1))(ha:Bg G fr x=some (.ptr id off))
   (j:∀g',UJ P G (dR b B w0 g' 1 [(id,off)]) (IU c) l (JE fr (opAt c i).dst (.raw (some ⟨g',0,none⟩) 1 1)) s Q):UJ P G (E0 b B w0) (IU c) (i::l) fr s Q:=by
 cases hie:P.info? e with
 | none=>rw[hie] at he;cases he
 | some ie =>
 rw[hie] at he;simp only[Option.map_some,Option.some.injEq,Prod.mk.injEq] at he;obtain⟨Qi,hzz⟩:=he;obtain⟨z,hz,hzs⟩:=Option.map_eq_some_iff.1 hzz
 have hgd:(opAt c i).guard=none:=by
   unfold aeU at h;split at h;rename_i hg;exact hg;cases h
 refine .ank (ι:=Nat) (E':=λq=>dR b B w0 q 1 [(id,off)]) (λq=>.raw (some ⟨q,0,none⟩) 1 1) (Qt hr hi) hgd (λcx w a hE hs hf=>?_) j;have hva:=Gm hs hf ha;generalize hqa:a.eval x=va at hva;obtain⟨h1,h2,h3⟩:=hE;have Vf:=(aas (P:=P) (w:=w) (ρ:=a.eval) h hu hie Qi hz hzs (by rw[hqa];cases hva;rfl)).2;rw[hqa] at Vf;let w':World:={ w with heap:=w.heap.push (.cells #[va] e) }
 have hk:S2 w w' (λ_=>False):=Oa w _;let R4:Cx:={ cx with bad:=λg' i=>B g' i\/g'=w.heap.size }
 have hBs:∀g' i,B g' i->g' < w.heap.size:=λg' i hb=>hs.OW g' i (by rw[h2];exact hb);have aqb:w'.heap.size=w.heap.size+1:=by simp[w']
 have hm:Mon cx w R4 w':=⟨λ_ _ h=>h,Nat.le_refl _,λr y _ h=>⟨y,h,Lq.refl y⟩,λg' i v hv=>⟨Nat.lt_of_lt_of_le hv.1 hk.size,λKr=>by
   rcases Kr with Kr | Kr | Kr
   exact hv.2.1 (.inl Kr);exact hv.2.1 (.inr (.inl Kr));rcases Kr with Kr | Kr
   exact hv.2.1 (.inr (.inr (by rw[h2];exact Kr)));have:=hv.1;omega,by rw[hk.cell hv.1 not_false];exact hv.2.2⟩⟩
 refine⟨w.heap.size,_,w',R4,Vf,⟨h1,h3.trans (hk.below (by rw[<- h1];exact hs.Su) (λ_ h=>h.elim)),λ_ _=>Iff.rfl,by rw[<- h1];exact hs.Su,λnY=>?_,λr n' c' sz Z6=>?_,[va],[],e,by simp[w'],rfl,.cons (hva.DD hm) .nil⟩,hs.move hm rfl rfl rfl (λk hk' _=>hk.block k hk' not_false) hk.size (λg' i hb=>?_),hf.DD hm,.raw⟩;have:=hs.O2 _ nY;omega;have:=hs.Rt Z6;omega;rcases hb with hb | rfl
 exact⟨.inl (by rw[h2];exact hb),by have:=hBs g' i hb;omega⟩;exact⟨.inr (Nat.le_refl _),by omega⟩
def WE.run(hm:P.follows .mixedOrders=true)(hk:WI E){c:Code}(l:List (PC P G)){e:AX}{fr2:List AV}{s2:AS}(h:xX fr2 (T8 P G 300 c [] (pHs l) fr s)=some (e,n6 l,fr2,s2))(hp:∀v,e≠.JK v)(hq:Q e fr2 s2 E):WE P G E c fr s Q:=by
 unfold xX at h;split at h;rename_i e' cd Cp s' hr;simp only[Option.some.injEq,Prod.mk.injEq] at h;obtain⟨rfl,rfl,Q7,rfl⟩:=h;have hw:W P G (XS P G) H0 c fr s (λe2 f2 s2=>e2=e'/\f2=Cp/\s2=s'):=Ac 300 l _ _ _ _ hr (PO l) ⟨rfl,rfl,rfl⟩;obtain⟨e1,f1,s1,hj,rfl,rfl,rfl⟩:=hw;have hS:=sound (T7 hm) hj;intro cx w a K hE hs hf hd hK;refine hS cx w a K hs hf hd ?_;rintro e'' a' w' ⟨c',hx,CX,Tc,h4⟩;refine hK _ _ _ E hq c' w' a' e'' (hk _ _ _ _ hE hx) CX Tc ?_;rw[<- Q7];cases e1 with
 | normal=>exact⟨h4.1,S0 h4.2⟩
 | exit id=>exact⟨h4.1,S0 h4.2⟩
 | ret=>exact⟨h4.1,S0 h4.2⟩
 | JK v=>exact absurd rfl (hp v)
 cases h
end
end AI
namespace AI
open Go Go.RowKit
section
variable {P:Program} {G:Bc} {E:EW} {fr:List AV} {s:AS} {Q:QE}
def WE.wk{c:Code}{fr2:List AV}(h:wkF fr fr2=fr2)(k:WE P G E c fr2 s Q):WE P G E c fr s Q:=λcx w a K hE hs hf hd hK=>k cx w a K hE hs (by rw[<- h];exact S0 hf) hd hK
def WE.xU{c:Code}{id:Nat}{b b2:Bl}(hb:look id s.h=some b)(hk:∀(cx:Cx) (w:World) (o:Obj),FK cx w b o->FK cx w b2 o)(k:WE P G E c fr ⟨uZ id b2 s.h,s.nx,s.F,s.nr⟩ Q):WE P G E c fr s Q:=λcx w a K hE hs hf hd hK=>k cx w a K hE (hs.xU hb (λo ho=>hk cx w o ho)) hf hd hK
def UJ.q(hm:P.follows .mixedOrders=true)(hk:WI E){c:Code}{n i:Nat}{l:List Nat}(hr:gL c n=true)(hi:i < n)(v:AV)(hw:CG (IU c) fr (opAt c i)=true)(h:QW P G fr s (opAt c i)=some (.val v s))(t:UJ P G E (IU c) l (JE fr (opAt c i).dst v) s Q):UJ P G E (IU c) (i::l) fr s Q :=
 .op hm hk v (Qt hr hi) (.Ot hw h) t
def UJ.hb(hm:P.follows .mixedOrders=true)(hk:WI E){c:Code}{n i:Nat}{l:List Nat}(hr:gL c n=true)(hi:i < n){B:Bool}(b:Bool)(hB:B=b)(h:bK P G (IU c) fr s (opAt c i) [.b b]=some (.sc (.bool b),s,[],[.eqb B b]))(t:UJ P G E (IU c) l (JE fr (opAt c i).dst (.sc (.bool b))) s Q):UJ P G E (IU c) (i::l) fr s Q :=
 .op hm hk (.sc (.bool b)) (Qt hr hi) (PI h ⟨hB,trivial⟩) t
def UJ.hi(hm:P.follows .mixedOrders=true)(hk:WI E){c:Code}{n i:Nat}{l:List Nat}(hr:gL c n=true)(hi:i < n){X:Int}(z:Int)(hX:X=z)(h:bK P G (IU c) fr s (opAt c i) [.i z]=some (.sc (.int .i64 z),s,[],[.eqi X z]))(t:UJ P G E (IU c) l (JE fr (opAt c i).dst (.sc (.int .i64 z))) s Q):UJ P G E (IU c) (i::l) fr s Q :=
 .op hm hk (.sc (.int .i64 z)) (Qt hr hi) (PI h ⟨hX,trivial⟩) t
def WE.mono{c:Code}{Q2:QE}(h:WE P G E c fr s Q2)(hq:∀e Cp s' E',Q2 e Cp s' E'->Q e Cp s' E'):WE P G E c fr s Q:=λcx w a K hE hs hf hd hK=>h cx w a K hE hs hf hd (λe fr s E h2=>hK e fr s E (hq _ _ _ _ h2))
end
end AI
namespace AI
open Go Go.RowKit
end AI
namespace AI
open Go Go.RowKit
end AI
namespace AI
open Go Go.RowKit
section
variable {P:Program} {G:Bc} {α δ:Type} {enc:α->AV} {encd:δ->AV}
abbrev I5(enc:α->AV)(encd:δ->AV):α⊕δ->CR
 | .inl a=>.ret (enc a)
 | .inr d=>.JK (encd d)
def QY(P:Program)(G:Bc)(fn:Func)(m:Nat)(s0:AS)(enc:α->AV)(encd:δ->AV)(Q:AX->List AV->AS->Prop)(y:α⊕δ)(s2:AS):Prop:=match y with
 | .inl a=>R2 P G fn m s0 Q (enc a) s2
 | .inr d=>TW G m s0 Q (encd d) s2
def QY.body{fn:Func}{m:Nat}{s0 s2:AS}{y:α⊕δ}:QY P G fn m s0 enc encd (U1 P fn m (QM G s0 (I5 enc encd y) s2)) y s2:=by
 cases y with
 | inl a=>exact R2.body
 | inr d=>exact TW.body
def QY.outer{fn:Func}{m id:Nat}{ks:List KI}{s0 s2:AS}{Q:AX->List AV->AS->Prop}{y:α⊕δ}(h:QY P G fn m s0 enc encd Q y s2):QY P G fn m s0 enc encd (ET id (Ej P G ks Q)) y s2:=by
 cases y with
 | inl a=>exact R2.outer h
 | inr d=>exact TW.outer h
def QY.Gi{fn:Func}{m:Nat}{L:Code}{s0 s1 s2:AS}{Q:AX->List AV->AS->Prop}{y:α⊕δ}(h:QY P G fn m s0 enc encd Q y s2):QY P G fn m s0 enc encd (Uv P G L s1 Q) y s2:=by
 cases y with
 | inl a=>exact R2.Gi h
 | inr d=>exact TW.Gi h
def af7(n m0:Nat)(m:Nat)(rF bs:List AV)(cs:List (Option Bl)):HR->Option (List Cd×List AV×AS×List AV×List (Option Bl))
 | some (.fin (.JK v),[],cd,_,s)=>(match acL rF n m0 [v] (s.cut m) bs cs with
     | some (fr2,s2,as,cas)=>some (cd,fr2,s2,as,cas)
     | none=>none)
 | _=>none
def BL(hG:∀g cs,G g=some cs->BN cs=true){r:HR}{X:Prop}{s0:AS}{Q:AX->List AV->AS->Prop}(m:Nat){l:List (PC P G)}(Qe:List (FP s0.nx s0.nr))(XH:List (FO s0.nx s0.nr)){v:AV}{s2:AS}(R:VX P G l Q r X)
   (h:af7 s0.nx s0.nr m [v] (nW Qe) (oX XH) r=some (n6 l,[v],s2,sI Qe,z8 XH)) (k:TW G m s0 Q v s2):X:=by
 unfold af7 at h;split at h;split at h;rename_i h1;simp only[Option.some.injEq,Prod.mk.injEq] at h;obtain⟨rfl,rfl,rfl,rfl,rfl⟩:=h;exact R _ _ _ _ rfl (PO l) (k _ _ (gT hG h1) _ _ rfl);cases h;cases h
def MF{k j:Nat}{ρ σ:Nat->Nat}(h1:∀a,plain (enc a)=true)(h2:∀d,plain (encd d)=true)(y:α⊕δ):RnR k j ρ σ (I5 enc encd y) (I5 enc encd y):=by
 cases y with
 | inl a=>exact .pl (h1 a)
 | inr d=>exact .pl (h2 d)
def TA{γ:Type}{f:α->Option γ}{g:δ->Option γ}{y:α⊕δ}{r:γ}{X:Prop}(h1:∀a,y=.inl a->f a=some r->X)(h2:∀d,y=.inr d->g d=some r->X):Sum.elim f g y=some r->X:=by
 cases y with
 | inl a=>exact h1 a rfl
 | inr d=>exact h2 d rfl
def RI.ixa{α:Type}{f:α->List AV}{C:List α->List AV}{k:Nat}(h:RI f C k){t elem len:Nat}(hu:P.underlying t=some (.array len elem))(hs:(P.info? elem).map (·.size)=some k){l:List α}(hl:l.length=len){z:Int}{x:α}(hx:HU l z=some x):DB P t (.el (C l)) (.sc (.int .i64 z))=some (.el (f x++C (l.drop (z.toNat+1)))):=by
 unfold HU at hx;split at hx
 . rename_i hz
   have hi:=(List.getElem?_eq_some_iff.1 hx).1
   have hn:To (.sc (.int .i64 z))=some z.toNat:=by
     unfold To;simp[hz]
   cases he:P.info? elem with
   | none=>rw[he] at hs;cases hs
   | some e =>
     rw[he] at hs;have hk:e.size=k:=by simpa using hs
     subst hl;unfold DB;rw[hu,hn];simp only[he,hk,if_pos hi];rw[h.eq,h.eq,cM h.len hx]
 cases hx
def anc(z:List NZ)(rF:List AV):HR->Option (AX×List Cd×List AV×AS)
 | some (.fin e,[],cd,fr,s)=>(match nzs z fr s with
   | some (fr2,s2)=>some (e,cd,wkF fr2 rF,s2)
   | none=>none)
 | _=>none
def Er{r:HR}{X:Prop}{L:Code}{s0:AS}{Q:AX->List AV->AS->Prop}{l:List (PC P G)}(z:List NZ){fr2:List AV}{s2:AS}(R:VX P G l (Uv P G L s0 Q) r X)(h:anc z fr2 r=some (.normal,n6 l,fr2,s2))(k:WL P G (XS P G) H0 L fr2 s2 Q):X:=by
 unfold anc at h;split at h;split at h;rename_i fr3 s3 hz;simp only[Option.some.injEq,Prod.mk.injEq] at h;obtain⟨rfl,rfl,h3,rfl⟩:=h;refine R _ _ _ _ rfl (PO l) ⟨_,_,λcx w c' w' vs hx _ CX hr=>?_,k⟩;obtain⟨c2,x2,XW,r2⟩:=qE hz c' w' vs CX hr;exact⟨c2,hx.trans x2,XW,h3▸S0 r2⟩;cases h;cases h
def Dy{M X:Prop}{L:Code}{fr:List AV}{s:AS}{Q:AX->List AV->AS->Prop}(T9:WL P G (XS P G) H0 L fr s Q->X)(k:M->W P G (XS P G) H0 L fr s (Uv P G L s Q)):M->X:=λh=>T9 (dS (k h))
def fQ{M X Y:Prop}(T9:Y->X)(k:M->Y):M->X:=λh=>T9 (k h)
def ajg{t:TypeId}{x y:ByteArray}(h:x.data.toList.length+y.data.toList.length<=9223372036854775807)(ox oy:Operand):L2 P .add t ox oy (.sc (.string x)) (.sc (.string y))=some (.sc (.string (x++y))):=by
 have h0:RJ P .add t ox oy (.sc (.string x)) (.sc (.string y))=some (.sc (.string (x++y))):=by
   unfold RJ oG;simp only[if_pos h,Option.bind_some,UU];rfl
 unfold L2;simp only[h0,aal]
def akR{t tx:TypeId}{a b v:AV}(h:∀s:AS,Cd.ok P G (.WK s t tx a b v s)):PC P G:=⟨.af v,[.apf t tx a b v],⟨h,trivial⟩⟩
def ppn:PC P G:=⟨.p .any ⟨[],0,[],0⟩,[],trivial⟩
def pzq(c:Nat):PC P G:=⟨.zq c,[],trivial⟩
def af9{f:FuncId}{args WO:List AV}{v:AV}{pre:List (Nat×Bl)}{tp:List (Nat×Nat)}{RB:List (Nat×Bl)}{tu:List (Nat×Nat)}(w:Wn args WO)(h:Cd.ok P G (.Fc f WO (.JK v) pre tp RB tu)):PC P G :=
 ⟨.q v pre tp RB tu,[.Fc f args (.JK v) pre tp RB tu,.z7 (OU pre) (OU pre) (Pp tp) (Pp tp)],⟨λs h1 h2 cx wd vs hs ha=>h s h1 h2 cx wd vs hs (w.ok ha),⟨rfl,rfl⟩,trivial⟩⟩
end
end AI
namespace AI
open Go
section
variable {α γ δ ρ:Type}
def allI(p:Nat->α->Bool):List α->Nat->Bool
 | [],_=>true
 | y::l,i=>p i y&&allI p l (i+1)
def j4{body:Nat->α->Unit->Option (Lp Unit δ ρ)}{done:Unit->δ}{p:Nat->α->Bool}{v:ρ}:∀{l:List α} {i:Nat},(∀k y,l[k]?=some y->body (i+k) y ()=some (if p (i+k) y then .nx () else .rt v))->CO body done l i ()=some (if allI p l i then .inl (done ()) else .inr v)
 | [],i,_=>rfl
 | y::l,i,h=>by
   have h0:=h 0 y rfl;rw[Nat.add_zero] at h0;rw[CO,h0,allI];cases p i y with
   | false=>simp[Qd]
   | true =>
     have:=j4 (body:=body) (done:=done) (p:=p) (v:=v) (l:=l) (i:=i+1) λk z hz=>by
       have:=h (k+1) z (by simpa using hz)
       rwa[show i+(k+1)=i+1+k by omega] at this
     simpa[Qd] using this
def PM{β:Type}{n:Nat}{x:Option β}(h:n<=9223372036854775807):RT n x=x:=by unfold RT;rw[if_pos h]
def Fl{β:Type}{n:Nat}{x:Option β}(h:n<=100000000):MT n x=x:=by unfold MT;rw[if_pos h]
end
end AI
namespace AI
open Go
def mb(p:Prop):Bool:=@decide p (Classical.propDecidable _)
def C8{p:Prop}:mb p=true↔p:=by unfold mb;exact @decide_eq_true_iff p (_)
def MU{p q:Prop}(h:p↔q):mb p=mb q:=by rw[propext h]
def KF{β:Type}(p:Prop)(x y:β):β:=@ite β p (Classical.propDecidable _) x y
def Cy{β:Type}{p:Prop}{x y:β}(h:p):KF p x y=x:=@if_pos p (_) h _ _ _
def CE{β:Type}{p:Prop}{x y:β}(h:¬p):KF p x y=y:=@if_neg p (_) h _ _ _
section
variable {β:Type} {x y:β}
def aph(a b:Int):cond (CZ a b) x y=KF (a=b) x y:=by
 by_cases h:a=b;have:CZ a b=true:=by rw[Od];simpa using h
 rw[Cy h,this];rfl;have:CZ a b=false:=by rw[Od];simpa using h
 rw[CE h,this];rfl
def Mf(p:Prop):cond (mb p) x y=KF p x y:=by
 by_cases h:p;rw[Cy h,C8.2 h];rfl;rw[CE h]
 have:mb p=false:=by
   cases hm:mb p;rfl;exact absurd (C8.1 hm) h
 rw[this];rfl
end
section
variable {p q r:Prop}
def kR:KF p (some true) (some false)=some (mb p):=by
 by_cases h:p;rw[Cy h,C8.2 h];rw[CE h];congr 1;cases hm:mb p;rfl;exact absurd (C8.1 hm) h
def aky:KF p (some (mb q)) (some false)=some (mb (p/\q)):=by
 by_cases h:p;rw[Cy h];congr 1;rw[Bool.eq_iff_iff,C8,C8];simp[h];rw[CE h];congr 1;rw[Bool.eq_iff_iff,C8];simp[h]
def aqC:KF p (some false) (some (mb q))=some (mb (¬p/\q)):=by
 by_cases h:p;rw[Cy h];congr 1;rw[Bool.eq_iff_iff,C8];simp[h];rw[CE h];congr 1;rw[Bool.eq_iff_iff,C8,C8];simp[h]
def akz:KF p (some true) (some (mb q))=some (mb (p\/q)):=by
 by_cases h:p;rw[Cy h];congr 1;rw[Bool.eq_iff_iff,C8];simp[h];rw[CE h];congr 1;rw[Bool.eq_iff_iff,C8,C8];simp[h]
def ck{δ ρ:Type}(v:ρ)(p:Prop):Lp Unit δ ρ:=KF p (.nx ()) (.rt v)
variable {δ ρ:Type} {v:ρ}
def amO:KF p (some (.nx ())) (some (.rt v))=some (ck (δ:=δ) v p):=by
 unfold ck;by_cases h:p;rw[Cy h,Cy h];rw[CE h,CE h]
def afL:KF p (some (.rt v)) (some (.nx ()))=some (ck (δ:=δ) v ¬p):=by
 unfold ck;by_cases h:p;rw[Cy h,CE (by simp[h])];rw[CE h,Cy h]
def akq:KF p (some (ck (δ:=δ) v q)) (some (.rt v))=some (ck v (p/\q)):=by
 unfold ck;by_cases h:p;rw[Cy h];simp[h];rw[CE h,CE (by simp[h])]
def afM:KF p (some (.rt v)) (some (ck (δ:=δ) v q))=some (ck v (¬p/\q)):=by
 unfold ck;by_cases h:p;rw[Cy h,CE (by simp[h])];rw[CE h];simp[h]
def akp:KF p (some (ck (δ:=δ) v q)) (some (.nx ()))=some (ck v (p->q)):=by
 unfold ck;by_cases h:p;rw[Cy h];simp[h];rw[CE h,Cy (by simp[h])]
def aqz:KF p (some (.nx ())) (some (ck (δ:=δ) v q))=some (ck v (p\/q)):=by
 unfold ck;by_cases h:p;rw[Cy h,Cy (by simp[h])];rw[CE h];simp[h]
def aqA:KF p (some (ck (δ:=δ) v q)) (some (ck v r))=some (ck v ((p->q)/\(¬p->r))):=by
 unfold ck;by_cases h:p;rw[Cy h];simp[h];rw[CE h];simp[h]
def fT{α β:Type}{l:List α}{body:Nat->α->Unit->Option (Lp Unit Unit ρ)}{P:Nat->α->Prop}{k:Unit->Option β}{kr:ρ->Option β}(hl:l.length<=9223372036854775807)(hb:∀i y,l[i]?=some y->body i y ()=some (ck v (P i y))):(RT l.length (CO body (λ_=>()) (l.drop 0) 0 ())).bind (Ma k kr)=KF (∀i y,l[i]?=some y->P i y) (k ()) (kr v):=by
 rw[PM hl,List.drop_zero]
 have h1:∀k y,l[k]?=some y->body (0+k) y ()=some (if mb (P (0+k) y) then .nx () else .rt v):=λk y hy=>by
   rw[Nat.zero_add,hb k y hy];unfold ck;by_cases h:P k y;rw[Cy h,if_pos (C8.2 h)];rw[CE h,if_neg (λe=>h (C8.1 e))]
 rw[j4 (p:=λi y=>mb (P i y)) (v:=v) h1]
 have h2:∀(l:List α) (i:Nat),allI (λi y=>mb (P i y)) l i=true↔∀k y,l[k]?=some y->P (i+k) y:=by
   intro l
   induction l with
   | nil=>intro i;simp[allI]
   | cons a l ih =>
     intro i;rw[allI,Bool.and_eq_true,C8,ih];constructor;rintro⟨h1,h2⟩ k y hk;cases k with
     | zero=>simp at hk;subst hk;exact h1
     | succ k=>rw[show i+(k+1)=i+1+k by omega];exact h2 k y (by simpa using hk)
     intro h;refine⟨h 0 a rfl,λk y hk=>?_⟩;rw[show i+1+k=i+(k+1) by omega];exact h (k+1) y (by simpa using hk)
 have h3:=h2 l 0;simp only[Nat.zero_add] at h3;by_cases h:∀i y,l[i]?=some y->P i y;rw[Cy h,h3.2 h];rfl;rw[CE h]
 have:allI (λi y=>mb (P i y)) l 0=false:=by
   cases ha:allI (λi y=>mb (P i y)) l 0;rfl;exact absurd (h3.1 ha) h
 rw[this];rfl
end
end AI
namespace AI
open Go
def Sp{β:Type}(o:Option β)(Q:β->Prop):Prop:=∃r,o=some r/\Q r
section
variable {α β γ δ ρ κ:Type} {Q:β->Prop}
def UQ{r:β}:Sp (some r) Q=Q r:=propext ⟨λ⟨_,h,k⟩=>by cases h;exact k,λh=>⟨_,rfl,h⟩⟩
def rR{o:Option κ}{k:κ->Option β}:Sp (o.bind k) Q=Sp o (λy=>Sp (k y) Q):=propext ⟨λ⟨r,h,hq⟩=>by
 obtain⟨y,h1,h2⟩:=eC h;exact⟨y,h1,r,h2,hq⟩,λ⟨y,h1,r,h2,hq⟩=>⟨r,by rw[h1];exact h2,hq⟩⟩
def Sp.mono{Q':β->Prop}{o:Option β}(h:Sp o Q)(k:∀r,Q r->Q' r):Sp o Q':=h.elim λr h=>⟨r,h.1,k r h.2⟩
def ahV{o:Option β}{r:β}:(o=some r)=Sp o (λx=>x=r):=propext ⟨λh=>⟨r,h,rfl⟩,λ⟨_,h,k⟩=>by rw[h,k]⟩
def oB{p:Prop}{x y:Option β}:Sp (KF p x y) Q=((p->Sp x Q)/\(¬p->Sp y Q)):=propext (by
 by_cases h:p;rw[Cy h];exact⟨λa=>⟨λ_=>a,λn=>absurd h n⟩,λa=>a.1 h⟩;rw[CE h];exact⟨λa=>⟨λn=>absurd n h,λ_=>a⟩,λa=>a.2 h⟩)
def Re(a b:Int):NI a b=mb (a<=b):=by rw[Y6,Bool.eq_iff_iff,C8,decide_eq_true_iff]
def On(a b:Int):Ez a b=mb (a < b):=by rw[SH,Bool.eq_iff_iff,C8,decide_eq_true_iff]
def LC(a b:Int):CZ a b=mb (a=b):=by rw[Od,Bool.eq_iff_iff,C8,beq_iff_eq]
def SA(a b:ByteArray):BY a.data.toList b.data.toList=mb (a=b):=by
 rw[T4,Bool.eq_iff_iff,C8,beq_iff_eq];exact⟨λh=>ByteArray.ext (Array.ext' h),λh=>by rw[h]⟩
def Ze{p:Prop}:(mb p=true)=p:=propext C8
def W6{p:Prop}:(mb p=false)=¬p:=by rw[<- Bool.not_eq_true,Ze]
def rJ{p:Prop}:(true=mb p)=p:=by rw[@eq_comm _ true,Ze]
def WQ{p:Prop}:(false=mb p)=¬p:=by rw[@eq_comm _ false,W6]
def smb{p q:Prop}(h:p↔q):some (mb p)=some (mb q):=by rw[MU h]
def hJ{p:Prop}(h:¬p):some false=some (mb p):=congrArg some (by rw[WQ];exact h)
def aeK{l:List α}{body:Nat->α->γ->Option (Lp γ δ ρ)}{done:γ->δ}{k:δ->Option β}{kr:ρ->Option β}{x0:γ}(I:Nat->γ->Prop)(hl:l.length<=9223372036854775807)(h0:I 0 x0)
   (hb:∀i y x,l[i]?=some y->I i x->Sp (body i y x) (RQ (I (i+1)) (λd=>Sp (k d) Q) (λv=>Sp (kr v) Q)))
   (hz:∀x,I l.length x->Sp (k (done x)) Q):Sp ((RT l.length (CO body done (l.drop 0) 0 x0)).bind (Ma k kr)) Q:=by
 rw[PM hl,List.drop_zero]
 have key:∀(m:List α) (i:Nat) (x:γ),l.drop i=m->i<=l.length->I i x->Sp ((CO body done m i x).bind (Ma k kr)) Q:=by
   intro m
   induction m with
   | nil =>
     intro i x hd hle hi;have h1:=List.drop_eq_nil_iff.1 hd;have:i=l.length:=by omega
     subst this;exact hz x hi
   | cons y m ih =>
     intro i x hd hle hi
     have GM:i < l.length:=by
       rcases Nat.lt_or_ge i l.length with h1 | h1
       exact h1;rw[List.drop_eq_nil_of_le h1] at hd;cases hd
     have hy:l[i]?=some y:=by rw[<- List.head?_drop,hd];rfl
     have fD:l.drop (i+1)=m:=by rw[<- List.tail_drop,hd];rfl
     obtain⟨r,hr,hq⟩:=hb i y x hy hi;rw[CO,hr];cases r with
     | nx x'=>exact ih (i+1) x' fD GM hq
     | ex d=>exact hq
     | rt v=>exact hq
 exact key l 0 x0 rfl (Nat.zero_le _) h0
def alE{Qn:γ->Prop}{Qx:δ->Prop}{Qr:ρ->Prop}{x:γ}:RQ Qn Qx Qr (.nx x)=Qn x:=rfl
def alD{Qn:γ->Prop}{Qx:δ->Prop}{Qr:ρ->Prop}{x:δ}:RQ Qn Qx Qr (.ex x)=Qx x:=rfl
end
def ZY{n:Int}(h:-9223372036854775808<=n/\n<=9223372036854775807):Ny .i64 n=n:=by
 rw[VN];exact IntWalk.i64_in n (by omega)
def CM{a b:Int}(h:-9223372036854775808<=a+b/\a+b<=9223372036854775807):Bt a b=a+b:=by
 unfold Bt;rw[dU,ZY h]
def KZ{a b:Int}(h:-9223372036854775808<=a - b/\a - b<=9223372036854775807):L6 a b=a - b:=by
 unfold L6;rw[hP,ZY h]
def IX{a b:Int}(h:-9223372036854775808<=a*b/\a*b<=9223372036854775807):BQ a b=a*b:=by
 unfold BQ;rw[ZY h]
end AI
namespace AI
open Go Go.RowKit
def aM(w w1:World)(g:Nat):Prop:=w.heap.size<=g/\g < w1.heap.size
def Cx.aV(cx:Cx)(w w1:World):Cx:=⟨cx.base,cx.DA,cx.rows,λg i=>cx.bad g i\/aM w w1 g⟩
def Cx.Wu(c:Cx)(cx:Cx):Cx:=⟨c.base,c.DA,c.rows,cx.bad⟩
section
variable {G:Bc} {cx:Cx} {w w1:World} {s:AS}
def VK(k:S2 w w1 (λ_=>False)):Mon cx w (cx.aV w w1) w1:=by
 refine⟨λ_ _ e=>e,Nat.le_refl _,λr y _ h=>⟨y,h,Lq.refl y⟩,λg i v hv=>⟨Nat.lt_of_lt_of_le hv.1 k.size,λhs=>?_,by rw[k.cell hv.1 id];exact hv.2.2⟩⟩;rcases hs with hs | hs | hs | hs
 exact hv.2.1 (.inl hs);exact hv.2.1 (.inr (.inl hs));exact hv.2.1 (.inr (.inr hs));have:=hs.1;have:=hv.1;omega
def vD(h:St G cx w s)(k:S2 w w1 (λ_=>False)):St G (cx.aV w w1) w1 s:=by
 have m:=VK (cx:=cx) k;refine⟨h.len,h.desc,h.nodup,h.low,λid g b h1 h2=>?_,h.J6,λr g n cap sz hr=>?_,h.Kw,λg hg=>Nat.lt_of_lt_of_le (h.O2 g hg) k.size,λg i hb=>?_,h.J2,λg cs hg=>(h.PH g cs hg).DD m,Nat.le_trans h.Su k.size⟩;obtain⟨o,ho,hb⟩:=h.box id g b h1 h2;exact⟨o,by rw[k.block g (Array.getElem?_eq_some_iff.1 ho).1 not_false];exact ho,hb.DD m⟩;have hl:=h.Rt hr;obtain⟨NE,h2,h3,h4,vs,T,ho,h5⟩:=h.row r g n cap sz hr;refine⟨λi hb=>?_,h2,h3,h4,vs,T,by rw[k.block g (Array.getElem?_eq_some_iff.1 ho).1 not_false];exact ho,h5⟩;rcases hb with hb | hb
 exact NE i hb;have:=hb.1;omega;rcases hb with hb | hb
 exact Nat.lt_of_lt_of_le (h.OW g i hb) k.size;exact hb.2
variable {c':Cx} {w' w2:World} {s':AS}
def Uw(hx:Ext (cx.aV w w1) w1 c' w')(k2:S2 w' w2 (aM w w1)):Mon c' w' (c'.Wu cx) w2:=by
 refine⟨λ_ _ e=>e,Nat.le_refl _,λr y _ h=>⟨y,h,Lq.refl y⟩,λg i v hv=>⟨Nat.lt_of_lt_of_le hv.1 k2.size,λhs=>?_,?_⟩⟩;rcases hs with hs | hs | hs
 exact hv.2.1 (.inl hs);exact hv.2.1 (.inr (.inl hs));exact hv.2.1 (.inr (.inr (by rw[hx.bad];exact .inl hs)));rw[k2.cell hv.1 (λhk=>hv.2.1 (.inr (.inr (by rw[hx.bad];exact .inr hk))))];exact hv.2.2
def ZN(h:St G cx w s)(k:S2 w w1 (λ_=>False))(hx:Ext (cx.aV w w1) w1 c' w')(k2:S2 w' w2 (aM w w1)):Ext cx w (c'.Wu cx) w2:=by
 have m:=VK (cx:=cx) k;have m2:=Uw hx k2;refine⟨hx.DA,hx.J6,hx.rows,λg i v hv=>m2.iD g i v (hx.iD g i v (m.iD g i v hv)),?_,hx.base,rfl,λg hg=>?_,λr g n cap sz hr=>?_,λq hq hp hr=>?_⟩;have b1:Below cx.base w w1:=k.below h.Su (λ_ h=>h.elim);have b2:Below cx.base w1 w':=hx.below;have b3:Below cx.base w' w2:=k2.below (Nat.le_trans (Nat.le_trans h.Su k.size) b2.size) (λq hq=>Nat.le_trans h.Su hq.1);exact(b1.trans b2).trans b3;rcases hx.lF g hg with h1 | h1
 exact .inl h1;exact .inr (Nat.le_trans k.size h1);rcases hx.lU r g n cap sz hr with h1 | h1
 exact .inl h1;exact .inr (Nat.le_trans k.size h1);have hq1:q < w1.heap.size:=Nat.lt_of_lt_of_le hq k.size;rw[k2.block q (Nat.lt_of_lt_of_le hq1 hx.below.size) (λhn=>by have:=hn.1;omega),hx.Vi q hq1 hp hr,k.block q hq not_false]
def dA(h:St G cx w s)(hx:Ext (cx.aV w w1) w1 c' w')(CX:St G c' w' s')(k2:S2 w' w2 (aM w w1)):St G (c'.Wu cx) w2 s':=by
 have m2:=Uw hx k2
 have Ub:∀g,some g∈c'.DA->¬aM w w1 g:=by
   intro g hg hn;rcases hx.lF g hg with h1 | h1
   have:=h.O2 g h1;have:=hn.1;omega;have:=hn.2;omega
 refine⟨CX.len,CX.desc,CX.nodup,CX.low,λid g b h1 h2=>?_,CX.J6,λr g n cap sz hr=>?_,CX.Kw,λg hg=>Nat.lt_of_lt_of_le (CX.O2 g hg) k2.size,λg i hb=>Nat.lt_of_lt_of_le (CX.OW g i (by rw[hx.bad];exact .inl hb)) k2.size,CX.J2,λg cs hg=>(CX.PH g cs hg).DD m2,Nat.le_trans CX.Su k2.size⟩;obtain⟨o,ho,hb⟩:=CX.box id g b h1 h2;exact⟨o,by rw[k2.block g (Array.getElem?_eq_some_iff.1 ho).1 (Ub g (List.mem_of_getElem? h1))];exact ho,hb.DD m2⟩;obtain⟨NE,h2,h3,h4,vs,T,ho,h5⟩:=CX.row r g n cap sz hr;have hb:c'.bad=λg i=>cx.bad g i\/aM w w1 g:=hx.bad;exact⟨λi Xj=>NE i (by rw[hb];exact .inl Xj),h2,h3,h4,vs,T,by rw[k2.block g (Array.getElem?_eq_some_iff.1 ho).1 (λhn=>NE 0 (by rw[hb];exact .inr hn))];exact ho,h5⟩
def N6(h:St G cx w s)(hx:Ext (cx.aV w w1) w1 c' w'){q:Nat}(hq:aM w w1 q):w'.heap[q]?=w1.heap[q]?:=by
 refine hx.Vi q hq.2 (λhm=>?_) (λr n cap sz hr=>?_);have:=h.O2 q hm;have:=hq.1;omega;have:=h.Rt (r:=r) hr;have:=hq.1;omega
end
end AI
