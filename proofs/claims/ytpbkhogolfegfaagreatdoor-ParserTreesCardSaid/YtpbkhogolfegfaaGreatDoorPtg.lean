/- Part of a proof: see the last text. -/
import Derived.Test.YtpbkhogolfegfaaGreatDoorPtf
import Derived.Laws.StructEq
set_option linter.unusedVariables false
set_option linter.unusedSimpArgs false
set_option linter.defProp false
noncomputable section
namespace AI
open Go Go.RowKit
inductive Wn:List AV->List AV->Prop where
 | nil:Wn [] []
 | r {a:AV} {l k:List AV} (t:Wn l k):Wn (a::l) (a::k)
 | s {o:Own} {n:Nat} {cs ds l k:List AV} (h:cs=ds) (t:Wn l k):Wn (.sl o n cs::l) (.sl .lost n ds::k)
 | d {o:Own} {n:Nat} {cs ds es l k:List AV} (h:Wn cs ds) (e:ds=es) (t:Wn l k):Wn (.sl o n cs::l) (.sl .lost n es::k)
 | g {cs ds l k:List AV} (h:Wn cs ds) (t:Wn l k):Wn (.agg cs::l) (.agg ds::k)
 | u {cs ds l k:List AV} (h:Wn cs ds) (t:Wn l k):Wn (.Df cs::l) (.Df ds::k)
def Wn.refl:∀l:List AV,Wn l l
 | []=>.nil
 | _::l=>.r (Wn.refl l)
def Wn.len{l k:List AV}(h:Wn l k):l.length=k.length:=by
 induction h with
 | nil=>rfl
 | r _ ih=>simp[ih]
 | s _ _ ih=>simp[ih]
 | d _ _ _ _ ih=>simp[ih]
 | g _ _ _ ih=>simp[ih]
 | u _ _ _ ih=>simp[ih]
section
variable {c:Cx} {w:World}
mutual
def Wn.ok:∀{l k:List AV},Wn l k->∀{vs:List Value},Cz c w l vs->Cz c w k vs
 | _,_,.nil,_,hr=>hr
 | _,_,.r t,_,hr=>by cases hr with | cons h1 t1=>exact .cons h1 (t.ok t1)
 | _,_,.s h t,_,hr=>by
   subst h;cases hr with
   | cons h1 t1 =>
     refine .cons ?_ (t.ok t1);cases h1 with
     | sl0 _=>exact .sl0 trivial
     | Kx hn hc ho=>exact .Kx hn hc trivial
 | _,_,.d h e t,_,hr=>by
   subst e;cases hr with
   | cons h1 t1 =>
     refine .cons ?_ (t.ok t1);cases h1 with
     | sl0 _=>cases h;exact .sl0 trivial
     | Kx hn hc ho=>exact .Kx hn (h.okC hc) trivial
 | _,_,.g h t,_,hr=>by
   cases hr with
   | cons h1 t1 =>
     refine .cons ?_ (t.ok t1);cases h1 with
     | agg h2=>exact .agg (h.ok h2)
 | _,_,.u h t,_,hr=>by
   cases hr with
   | cons h1 t1 =>
     refine .cons ?_ (t.ok t1);cases h1 with
     | Df h2=>exact .Df (h.ok h2)
def Wn.okC:∀{l k:List AV},Wn l k->∀{g o:Nat},A9 c w g o l->A9 c w g o k
 | _,_,.nil,_,_,hr=>hr
 | _,_,.r t,_,_,hr=>by cases hr with | cons hv h1 t1=>exact .cons hv h1 (t.okC t1)
 | _,_,.s h t,_,_,hr=>by
   subst h;cases hr with
   | cons hv h1 t1 =>
     refine .cons hv ?_ (t.okC t1);cases h1 with
     | sl0 _=>exact .sl0 trivial
     | Kx hn hc ho=>exact .Kx hn hc trivial
 | _,_,.d h e t,_,_,hr=>by
   subst e;cases hr with
   | cons hv h1 t1 =>
     refine .cons hv ?_ (t.okC t1);cases h1 with
     | sl0 _=>cases h;exact .sl0 trivial
     | Kx hn hc ho=>exact .Kx hn (h.okC hc) trivial
 | _,_,.g h t,_,_,hr=>by
   cases hr with
   | cons hv h1 t1 =>
     refine .cons hv ?_ (t.okC t1);cases h1 with
     | agg h2=>exact .agg (h.ok h2)
 | _,_,.u h t,_,_,hr=>by
   cases hr with
   | cons hv h1 t1 =>
     refine .cons hv ?_ (t.okC t1);cases h1 with
     | Df h2=>exact .Df (h.ok h2)
end
end
def Wn.Tx{a b c d:List AV}(h:Wn a b)(k:Wn c d):Wn (a++c) (b++d):=by
 induction a generalizing b with
 | nil=>cases h;exact k
 | cons x a ih =>
   cases h with
   | r t=>exact .r (ih t)
   | s h t=>exact .s h (ih t)
   | d h e t=>exact .d h e (ih t)
   | g h t=>exact .g h (ih t)
   | u h t=>exact .u h (ih t)
def Rp.wnC{c:Cx}{w:World}{o:Own}{q:Nat}{cs ds:List AV}{u:Value}(h:Wn cs ds)(hr:Rp c w (.sl o q cs) u):Rp c w (.sl o q ds) u:=by
 cases hr with
 | sl0 h0=>cases h;exact .sl0 h0
 | Kx hn hc ho=>exact .Kx hn (h.okC hc) (by rw[<- h.len];exact ho)
def Fits.wn{n m:Nat}{a b:AV}(h:Wn [a] [b])(hp:AI.plain b=true):Fits n m a b:=λc w v hr=>by
 have:=h.ok (.cons hr .nil);cases this with
 | cons h1 _=>exact Fits.plain hp c w v h1
section
variable {P:Program} {G:A6}
def D2(hm:P.follows .mixedOrders=true)(hG:∀g cs,G g=some cs->BA cs=true){f:FuncId}{args:List AV}{v:AV}(h:WC P G (XS P G) H0 f args s0 (λr _=>∃a,r=.ret a/\Fits 0 0 a v))(hp:BA args=true)(hv:plain v=true):Pure P G f args v:=by
 obtain⟨r,s',hj,a,rfl,hf⟩:=h;have hS:=sound (Q9 hm) hj;intro s cx w vs hs Gh
 have Ia:∀g i x,Lq cx w g i x->Lq ⟨w.heap.size,[],[],cx.YZ⟩ w g i x:=by
   intro g i x hx;refine⟨hx.1,λGi=>?_,hx.2.2⟩;rcases Gi with Gi | ⟨r,n,cap,sz,hr,_⟩ | Gi
   cases Gi;simp at hr;exact hx.2.1 Gi
 have FW:St G ⟨w.heap.size,[],[],cx.YZ⟩ w s0 :=
   ⟨rfl,trivial,(λi j g h1=>by simp at h1),(λg hg=>by cases hg),(λid g b h1=>by simp at h1),rfl,(λr g n cap sz hr=>by simp at hr),(λr n hr=>by cases hr),(λg hg=>by cases hg),(λg i hb=>hs.Tf hb),(λr r' g n cap sz n' cap' MP hr=>by simp at hr),(λg cs hg=>A9.plain Ia (hG g cs hg) (hs.Ma g cs hg)),Nat.le_refl _⟩
 refine(hS _ w vs FW (Cz.plain Ia hp Gh)).mono ?_;rintro e w' ⟨c',hx,_,u,rfl,hu⟩;have NS:=hx.below;obtain⟨x2,Ty⟩:=hs.same (w':=w') ⟨NS.os,NS.tape,NS.output,NS.size,λk hk _=>NS.block k hk⟩;refine⟨cx,x2,Ty,u,rfl,Rp.plain (c:=c'.upto 0 0) (λg i x fX=>⟨fX.1,λGi=>fX.2.1 (.inr (.inr ?_)),fX.2.2⟩) hv (hf _ _ _ hu)⟩;show c'.bad g i;rw[hx.bad];exact Gi
def MZ(P:Program)(fn:Func)(m:Nat)(Q:AX->List AV->AS->Prop)(v:AV):Prop:=∀a s2,Fits 0 0 a v->QP P fn m Q a s2
def MZ.body{fn:Func}{m:Nat}{v:AV}:MZ P fn m (Sg P fn m (λr _=>∃a,r=.ret a/\Fits 0 0 a v)) v:=λa _ h=>.body ⟨a,rfl,h⟩
def MZ.outer{fn:Func}{m id:Nat}{ks:List KI}{Q:AX->List AV->AS->Prop}{v:AV}(h:MZ P fn m Q v):MZ P fn m (Ew id (D3 P G ks Q)) v:=λa s2 hf=>(h a s2 hf).outer
def RY{δ J:Type}(Q:AX->List AV->AS->Prop)(id:Nat)(F:δ->J->List AV)(S:δ->J->AS)(Ok:J->Prop)(d:δ):Prop:=∀j,Ok j->Q (.exit id) (F d j) (S d j)
def amS(P:Program)(fn:Func):HR->Option (List Cd×AV)
 | some (.fin .ret,[],cd,fr,s)=>(match Gg P s fn fr with
   | some v=>some (cd,v)
   | none=>none)
 | _=>none
def Bc{r:HR}{X:Prop}{Q:AX->List AV->AS->Prop}{v w:AV}(fn:Func)(m:Nat){l:List (PC P G)}(R:TF P G l Q r X)(h:amS P fn r=some (dO l,v))(k:MZ P fn m Q w)(hf:Fits 0 0 v w):X:=by
 unfold amS at h;split at h;rename_i cd fr' s';split at h;rename_i v' hv;simp only[Option.some.injEq,Prod.mk.injEq] at h;obtain⟨rfl,rfl⟩:=h;exact R _ _ _ _ rfl (Np l) (k _ _ hf _ _ hv rfl);cases h;cases h
def MZ.GB{fn:Func}{m:Nat}{L:Code}{s0:AS}{Q:AX->List AV->AS->Prop}{v:AV}(h:MZ P fn m Q v):MZ P fn m (Tc P G L s0 Q) v:=h
def PD{δ ρ β:Type}(k:δ->Option β)(kr:ρ->Option β):δ⊕ρ->Option β
 | .inl d=>k d
 | .inr v=>kr v
def pk:PC P G:=⟨.k,[],trivial⟩
def pb{B b:Bool}(h:B=b):PC P G:=⟨.b b,[.eqb B b],⟨h,trivial⟩⟩
def pn{B b:Bool}(h:B=b):PC P G:=⟨.b (!b),[.eqb (!B) (!b)],⟨by show(!B)=(!b);rw[h],trivial⟩⟩
def avO{i:Nat}(h:i < 9223372036854775807):Ms .i64 (xY ((i:Nat):Int) 1)=((i+1:Nat):Int):=by
 rw[Uw,Z8];have:=ahD (i:=i+1) (by omega);rw[<- this];rfl
def aJP(i:Nat)(h:i < 9223372036854775807):PC P G:=⟨.i ((i+1:Nat):Int),[.eqi (Ms .i64 (xY ((i:Nat):Int) 1)) ((i+1:Nat):Int)],⟨avO h,trivial⟩⟩
def Be{f:FuncId}{args:List AV}{v:AV}(h:Pure P G f args v):PC P G:=⟨.w v,[.pur f args v],⟨h,trivial⟩⟩
def HU{f:FuncId}{args Vn:List AV}{v:AV}(w:Wn args Vn)(h:Pure P G f Vn v):PC P G:=⟨.w v,[.pur f args v],⟨λs cx wd vs hs ha=>h s cx wd vs hs (w.ok ha),trivial⟩⟩
def IE{t:TypeId}{a b v:AV}(h:C7 P t a b=some v):PC P G:=⟨.w v,[.idx t a b v],⟨h,trivial⟩⟩
def pst{t:TypeId}{a b v:AV}(h:K9 P t a b=some v):PC P G:=⟨.w v,[.ix t a b v],⟨h,trivial⟩⟩
def Pk{op:BinOp}{t:TypeId}{x y:Operand}{a b v:AV}(h:L7 P op t x y a b=some v):PC P G:=⟨.w v,[.bin op t x y a b v],⟨h,trivial⟩⟩
def aBM{t:TypeId}{a:AV}{l h m:Option AV}{v:AV}(e:M1 P t a l h m=some v):PC P G:=⟨.o v,[.sli t a l h m v],⟨e,trivial⟩⟩
def BQ(a b:Int):Int:=Ms .i64 (xY a b)
def R8(a b:Int):Int:=Ms .i64 (cP a b)
def BM(a b:Int):Int:=Ms .i64 (a*b)
def L9{α:Type}(l:List α)(z:Int):Option α:=if 0<=z then l[z.toNat]? else none
structure Ou{α:Type}(f:α->List AV)(C:List α->List AV)(k:Nat):Prop where
 eq:∀l,C l=rows f l
 len:∀x,(f x).length=k
 pl:∀x,BA (f x)=true
def Ou.Tx{α:Type}{f:α->List AV}{C:List α->List AV}{k:Nat}(h:Ou f C k)(l m:List α):C (l++m)=C l++C m:=by rw[h.eq,h.eq,h.eq,Og]
def Ou.cons{α:Type}{f:α->List AV}{C:List α->List AV}{k:Nat}(h:Ou f C k)(x:α)(m:List α):C (x::m)=f x++C m:=by rw[h.eq,h.eq,Gc]
def Ou.BE{α:Type}{f:α->List AV}{C:List α->List AV}{k:Nat}(h:Ou f C k)(l:List α):BA (C l)=true:=by rw[h.eq];exact nQ λx _=>h.pl x
def Ou.Kr{α:Type}{f:α->List AV}{C:List α->List AV}{k:Nat}(h:Ou f C k)(l:List α):plain (.sl .lost l.length (C l))=true:=by simp only[plain,h.BE];rfl
def Ou.CS{α:Type}{f:α->List AV}{C:List α->List AV}{k:Nat}(h:Ou f C k)(x:α):plain (.agg (f x))=true:=h.pl x
def Ou.ix{α:Type}{f:α->List AV}{C:List α->List AV}{k:Nat}(h:Ou f C k){t elem:TypeId}(hu:P.underlying t=some (.slice elem))(hs:(P.info? elem).map (·.size)=some k)(own:Own){l:List α}{i:Nat}{x:α}(hx:l[i]?=some x):C7 P t (.sl own l.length (C l)) (.sc (.int .i64 ((i:Nat):Int)))=some (.el (f x++C (l.drop (i+1)))):=by
 cases hi:P.info? elem with
 | none=>rw[hi] at hs;cases hs
 | some e =>
   rw[hi] at hs;rw[h.eq,h.eq];exact mN hu hi (by simpa using hs) h.len hx
def Ou.ixz{α:Type}{f:α->List AV}{C:List α->List AV}{k:Nat}(h:Ou f C k){t elem:TypeId}(hu:P.underlying t=some (.slice elem))(hs:(P.info? elem).map (·.size)=some k)(own:Own){l:List α}{z:Int}{x:α}(hx:L9 l z=some x):C7 P t (.sl own l.length (C l)) (.sc (.int .i64 z))=some (.el (f x++C (l.drop (z.toNat+1)))):=by
 unfold L9 at hx;split at hx;rename_i hz;have:=h.ix hu hs own hx;rwa[Int.toNat_of_nonneg hz] at this;cases hx
def Ou.wn{α:Type}{f:α->List AV}{C:List α->List AV}{k:Nat}(h:Ou f C k)(m:List α){a:List AV}(w:Wn a (rows f m)):Wn a (C m):=by rw[h.eq];exact w
def VI{α:Type}{f:α->List AV}{k:Nat}(hf:∀x,(f x).length=k)(l:List α)(i:Nat):(rows f l).drop (i*k)=rows f (l.drop i):=by
 induction l generalizing i with
 | nil=>simp[rows]
 | cons x l ih =>
   cases i with
   | zero=>simp
   | succ i =>
     rw[Gc,List.drop_append,hf x,List.drop_eq_nil_of_le (by rw[hf x,Nat.add_mul];omega),List.nil_append,List.drop_succ_cons,<- ih i];congr 1;rw[Nat.add_mul];omega
def VJ{α:Type}{f:α->List AV}{k:Nat}(hf:∀x,(f x).length=k)(l:List α)(i:Nat):(rows f l).take (i*k)=rows f (l.take i):=by
 induction l generalizing i with
 | nil=>simp[rows]
 | cons x l ih =>
   cases i with
   | zero=>simp[rows]
   | succ i =>
     rw[Gc,List.take_append,hf x,List.take_of_length_le (by rw[hf x,Nat.add_mul];omega),List.take_succ_cons,Gc,<- ih i];congr 2;rw[Nat.add_mul];omega
def Ou.sub{α:Type}{f:α->List AV}{C:List α->List AV}{k:Nat}(h:Ou f C k){t elem:TypeId}(hu:P.underlying t=some (.slice elem))(hs:(P.info? elem).map (·.size)=some k)(l q:Nat){s:List α}(h1:l<=q)(h2:q<=s.length)(lo hi:Option AV)(e1:Ov 0 lo=some l)(e2:Ov s.length hi=some q) :
   M1 P t (.sl .lost s.length (C s)) lo hi none=some (.sl .lost ((s.drop l).take (q - l)).length (C ((s.drop l).take (q - l)))):=by
 cases OU:P.info? elem with
 | none=>rw[OU] at hs;cases hs
 | some e =>
   rw[OU] at hs;have hk:e.size=k:=by simpa using hs
   unfold M1;simp only[hu,OU,e1,e2,hk];rw[if_pos ⟨h1,h2,by rw[h.eq,Iy h.len]⟩]
   have e3:(if l=0/\q=s.length then Own.lost else if q=s.length/\Own.lost=.full then .full else .lost)=.lost:=by
     split;rfl;split;rename_i hq;exact absurd hq.2 (by decide);rfl
   rw[e3,h.eq,h.eq,VI h.len,VJ h.len];congr 2;simp;omega
def uC{β:Type}(f:Nat->Option β):Option β:=open Classical in if h:∃y,∃n0:Nat,∀n,n0<=n->f n=some y then some (Classical.choose h) else none
def fB{β:Type}{f:Nat->Option β}{y:β}(h:uC f=some y):∃n,f n=some y:=by
 unfold uC at h;split at h;rename_i hx;obtain⟨n0,hn⟩:=Classical.choose_spec hx;rw[Option.some.inj h] at hn;exact⟨n0,hn n0 (Nat.le_refl _)⟩;cases h
def SM{β:Type}{f:Nat->Option β}{y:β}(n0:Nat)(h:∀n,n0<=n->f n=some y):uC f=some y:=by
 unfold uC;have hx:∃y,∃n0:Nat,∀n,n0<=n->f n=some y:=⟨y,n0,h⟩;rw[dif_pos hx];obtain⟨n1,hn⟩:=Classical.choose_spec hx;have h1:=h (max n0 n1) (Nat.le_max_left _ _);have h2:=hn (max n0 n1) (Nat.le_max_right _ _);rw[h1] at h2;rw[Option.some.inj h2]
def OE{β:Type}(n:Nat)(x:Option β):Option β:=if n<=100000000 then x else none
def acX{β:Type}{n:Nat}{x:Option β}{r:β}(h:OE n x=some r):n<=100000000/\x=some r:=by
 unfold OE at h;split at h;rename_i h1;exact⟨h1,h⟩;cases h
def Ou.Zg{α:Type}{f:α->List AV}{C:List α->List AV}{k:Nat}(h:Ou f C k){t tx e e2 yI:Nat}(hu:P.underlying t=some (.slice e))(hux:P.underlying tx=some (.slice e2))(hi:(P.info? e).map (λi=>(i.size,i.bytes,i.zero.map (·.cells.size)))=some (k,yI,some k))(hk:0 < k)(hb:yI<=10000)
   (own:Own) (l m:List α) {o:Own} {n:Nat} {ns:List AV} (hn:Wn ns (C m)) (mE:n=m.length) (ho:ns.all one=true) (hm:m.length≠0) (hlen:l.length+m.length<=100000000):Cd.ok P G (.Zg t tx own l.length (C l) (.sl o n ns) k (l++m).length (C (l++m))):=by
 subst mE;cases hq:P.info? e with
 | none=>rw[hq] at hi;cases hi
 | some i =>
   rw[hq] at hi;simp only[Option.map_some,Option.some.injEq,Prod.mk.injEq] at hi;obtain⟨h1,h2,h3⟩:=hi;cases hz:i.zero with
   | none=>rw[hz] at h3;cases h3
   | some z =>
     rw[hz] at h3;simp only[Option.map_some,Option.some.injEq] at h3;intro s OD;have hnl:ns.length=m.length*k:=by rw[hn.len,h.eq,Iy h.len]
     have mC:(C l).length=l.length*k:=by rw[h.eq,Iy h.len]
     refine⟨C l++ns,?_,λc w u o' hr=>?_⟩
     have hs:VR P s i.size tx (.sl o m.length ns)=some (m.length,ns):=by
       unfold VR;rw[hux,h1];simp only[hnl,if_true]
     unfold Ky;simp only[hu,hq,hz];rw[if_pos ⟨by rw[h3,h1],by omega⟩,hs];simp only
     have hbb:(l.length+m.length)*i.bytes<=140737488355328:=by
       rw[h2];exact Nat.le_trans (Nat.mul_le_mul hlen hb) (by decide)
     rw[if_pos ⟨by rw[mC,h1],ho,hbb,by omega⟩,if_neg hm,h1,if_pos OD,List.length_append];rw[h.Tx];exact Rp.wnC (Wn.Tx (Wn.refl (C l)) hn) hr
def R4{t tx:TypeId}{own:Own}{n:Nat}{cs:List AV}{b:AV}{sz k:Nat}{cs2:List AV}(h:Cd.ok P G (.Zg t tx own n cs b sz k cs2)):PC P G :=
 match own with
 | .row r z=>⟨.g sz k cs2,[.Zg t tx (.row r z) n cs b sz k cs2,.eqn n n],⟨h,rfl,trivial⟩⟩
 | .full=>⟨.g sz k cs2,[.Zg t tx .full n cs b sz k cs2],⟨h,trivial⟩⟩
 | _=>⟨.g sz k cs2,[],trivial⟩
def BE{a:AV}{l:List AV}(h:plain a=true)(t:BA l=true):BA (a::l)=true:=by simp only[BA,h,t];rfl
def arR{a b:List AV}(ha:BA a=true)(hb:BA b=true):BA (a++b)=true:=by
 induction a with
 | nil=>exact hb
 | cons x a ih =>
   simp only[BA,Bool.and_eq_true,List.cons_append] at ha ⊢;exact⟨ha.1,ih ha.2⟩
def JQ{n m:Nat}{a:AV}{l:List AV}(h:under n m a=true)(t:Fh n m l=true):Fh n m (a::l)=true:=by simp only[Fh,h,t];rfl
end
end AI
namespace AI
open Go Go.RowKit
def Jy{P:Program}{α β:Type}(m:Sem α)(f:α->Sem β):pv P (m >>= f)=(pv P m).bind λa=>pv P (f a):=by
 show pv P (m.bind f)=_
 induction m with
 | pure a=>rfl
 | program k ih=>exact ih P
 | mark _ k ih=>exact ih
 | _=>rfl
def MK{P:Program}{α:Type}(a:α):pv P (pure a:Sem α)=some a:=rfl
def S8{P:Program}:pv P program=some P:=rfl
def JU{P:Program}{t:TypeId}{d:TypeDesc}(h:P.underlying t=some d):pv P (underlying t)=some d:=by
 unfold underlying;rw[Jy,S8];simp only[Option.bind_some,h];rfl
def awW{P:Program}{α:Type}(c:Prop)[Decidable c](a b:Sem α):pv P (if c then a else b)=if c then pv P a else pv P b:=by split<;>rfl
def T9{P:Program}(d:Nat)(t:TypeId)(xs ys:Array Value)(ht:P.underlying t=some (.struct (P.fieldsOf t)))(hp:P.stoodInHeld t=false) :
   pv P (Op.equalIn (d+1) t (.agg xs) (.agg ys))=pv P (Op.eqFields d xs ys (P.fieldsOf t).toList):=by
 simp only[Op.equalIn,Jy,JU ht,Option.bind_some,S8,hp,Bool.false_eq_true,if_false];rw[<- Array.forIn_toList];generalize (P.fieldsOf t).toList=fs;clear ht
 induction fs with
 | nil=>simp[Op.eqFields,MK]
 | cons f fs ih =>
   simp only[List.forIn_cons,Op.eqFields,Jy,awW];split
   · generalize pv P (part f.type xs f.offset)=r1
     cases r1 with
     | none=>simp
     | some a =>
       simp only[Option.bind_some];generalize pv P (part f.type ys f.offset)=r2;cases r2 with
       | none=>simp
       | some b =>
         simp only[Option.bind_some];generalize pv P (Op.equalIn d f.type a b)=r3;cases r3 with
         | none=>simp
         | some r =>
           cases r;simp[MK];simp only[Option.bind_some,Bool.not_true,Bool.false_eq_true,if_false,MK];exact ih
   simp only[MK,Option.bind_some];exact ih
def amK{P:Program}{t:TypeId}{k:IntKind}(h:P.underlying t=some (.int k))(cs:Array Value)(off:Nat){v:Value}(hv:cs[off]?=some v):pv P (part t cs off)=some v:=by
 unfold part isAgg;simp[Jy,JU h,MK,hv]
def XX{P:Program}(d:Nat){t:TypeId}{k k':IntKind}(a b:Int)(h:P.underlying t=some (.int k')):pv P (Op.equalIn (d+1) t (.int k a) (.int k b))=some (a == b):=by
 simp[Op.equalIn,Jy,JU h,MK]
def iB{P:Program}(op:BinOp)(t:TypeId)(x y:Operand)(xs ys:Array Value)(hm:P.eqGuardType P.depth t=false):pv P (eqGuard op t x y (.agg xs) (.agg ys))=some ():=by
 cases op<;>simp[eqGuard,Jy,S8,hm,MK]
def Q7(P:Program)(t:TypeId):Nat:=match P.underlying t with
 | some (.int _)=>1
 | some .string=>2
 | _=>0
def fEq:Value->Value->Option Bool
 | .int k a,.int k' b=>if k=k' then some (a == b) else none
 | .string a,.string b=>some (a == b)
 | _,_=>none
def YG:List Value->List Value->Option Bool
 | [],[]=>some true
 | a::as,b::bs=>(fEq a b).bind λr=>(match r with | true=>YG as bs | false=>some false)
 | _,_=>none
def iC{P:Program}{t:TypeId}(h:Q7 P t≠0)(cs:Array Value)(off:Nat){v:Value}(hv:cs[off]?=some v):pv P (part t cs off)=some v:=by
 unfold Q7 at h;split at h;rename_i h1;exact amK h1 cs off hv;rename_i h1;unfold part isAgg;simp[Jy,JU h1,MK,hv];exact absurd rfl h
def awV{P:Program}(d:Nat){t:TypeId}{a b:Value}{r:Bool}(hk:(∃k n m,a=.int k n/\b=.int k m/\Q7 P t=1)\/(∃x y,a=.string x/\b=.string y/\Q7 P t=2))(h:fEq a b=some r):pv P (Op.equalIn (d+1) t a b)=some r:=by
 rcases hk with ⟨k,n,m,rfl,rfl,hk⟩ | ⟨x,y,rfl,rfl,hk⟩
 unfold Q7 at hk;split at hk;rename_i h1;simp only[fEq,if_true] at h;rw[XX d n m h1];exact h;cases hk;cases hk;unfold Q7 at hk;split at hk;cases hk;rename_i h1;simp only[fEq] at h;rw[<- h];simp[Op.equalIn,Jy,JU h1,MK];cases hk
def fF:List Nat->List Value->Prop
 | [],[]=>True
 | k::ks,v::vs=>((∃n,v=.int .i64 n/\k=1)\/(∃x,v=.string x/\k=2))/\fF ks vs
 | _,_=>False
def vN{P:Program}(d:Nat):∀(fs:List Field) (off:Nat) (ks:List Nat) (xs ys:List Value) (us vs:List Value) (r:Bool),fs.map (λf=>Q7 P f.type)=ks->(∀(i:Nat) f,fs[i]?=some f->f.name≠"_"/\f.offset=off+i)->xs.drop off=us->ys.drop off=vs->fF ks us->fF ks vs->YG us vs=some r->pv P (Op.eqFields (d+1) xs.toArray ys.toArray fs)=some r:=by
 intro fs
 induction fs with
 | nil =>
   intro off ks xs ys us vs r dJ _ hx hy h1 h2 h;cases ks with
   | cons=>cases dJ
   | nil =>
     cases us<;>cases vs<;>simp only[fF,YG] at h1 h2 h
     rw[<- h];rfl
 | cons f fs ih =>
   intro off ks xs ys us vs r dJ hf hx hy h1 h2 h;cases ks with
   | nil=>cases dJ
   | cons k ks =>
     cases us with
     | nil=>cases h1
     | cons u us =>
       cases vs with
       | nil=>cases h2
       | cons v vs =>
         simp only[List.map_cons,List.cons.injEq] at dJ;obtain⟨hk,dJ⟩:=dJ;obtain⟨hn,ho⟩:=hf 0 f rfl;rw[Nat.add_zero] at ho;have hxu:xs.toArray[off]?=some u:=by rw[List.getElem?_toArray,<- List.head?_drop,hx];rfl
         have hyv:ys.toArray[off]?=some v:=by rw[List.getElem?_toArray,<- List.head?_drop,hy];rfl
         have hk0:Q7 P f.type≠0:=by
           rw[hk];rcases h1.1 with ⟨_,_,e⟩ | ⟨_,_,e⟩<;>omega
         have hkk:(∃k n m,u=.int k n/\v=.int k m/\Q7 P f.type=1)\/(∃x y,u=.string x/\v=.string y/\Q7 P f.type=2):=by
           rw[hk];rcases h1.1 with ⟨n,e1,e2⟩ | ⟨n,e1,e2⟩<;>rcases h2.1 with ⟨m,e3,e4⟩ | ⟨m,e3,e4⟩
           exact .inl ⟨_,n,m,e1,e3,e2⟩;omega;omega;exact .inr ⟨n,m,e1,e3,e2⟩
         simp only[YG] at h;cases hq:fEq u v with
         | none=>rw[hq] at h;cases h
         | some q =>
           rw[hq] at h;simp only[Op.eqFields,hn,ne_eq,not_false_eq_true,if_true,ho];simp only[Jy,iC hk0 xs.toArray off hxu,iC hk0 ys.toArray off hyv,Option.bind_some,awV d hkk hq];cases q with
           | false =>
             have:r=false:=by simpa using h.symm
             subst this;rfl
           | true =>
             have ih:=ih (off+1) ks xs ys us vs r dJ (λi f' hi=>by
               have:=hf (i+1) f' (by simpa using hi)
               exact⟨this.1,by rw[this.2];omega⟩) (by rw[<- List.tail_drop,hx];rfl) (by rw[<- List.tail_drop,hy];rfl) h1.2 h2.2 (by simpa using h)
             simpa using ih
structure Flat(P:Program)(t:TypeId)(ks:List Nat):Prop where
 st:P.underlying t=some (.struct (P.fieldsOf t))
 hp:P.stoodInHeld t=false
 hm:P.eqGuardType P.depth t=false
 kd:(P.fieldsOf t).toList.map (λf=>Q7 P f.type)=ks
 nm:(P.fieldsOf t).toList.map (λf=>decide (f.name≠"_"))=List.replicate ks.length true
 of:(P.fieldsOf t).toList.map (λf=>f.offset)=List.range ks.length
def wH(vs:List Value):Ol (vs.map .sc)=some vs:=by
 induction vs with
 | nil=>rfl
 | cons v vs ih=>simp[Ol,Yf,ih]
def Flat.pv{P:Program}{t:TypeId}{ks:List Nat}(h:Flat P t ks){us vs:List Value}{r:Bool}(h1:fF ks us)(h2:fF ks vs)(h3:YG us vs=some r):AI.pv P (Op.equalIn (9998+1+1) t (.agg us.toArray) (.agg vs.toArray))=some r:=by
 rw[T9 _ _ _ _ h.st h.hp];refine vN 9998 _ 0 ks us vs us vs r h.kd (λi f hf=>?_) rfl rfl h1 h2 h3
 have hl:i < ks.length:=by
   have:=(List.getElem?_eq_some_iff.1 hf).1;have h5:=congrArg List.length h.kd;simp at h5 this;omega
 have a1:=congrArg (λl=>l[i]?) h.nm;have a2:=congrArg (λl=>l[i]?) h.of;simp only[List.getElem?_map,hf,Option.map_some,List.getElem?_replicate,hl,if_true,Option.some.injEq,decide_eq_true_eq] at a1;simp only[List.getElem?_map,hf,Option.map_some,List.getElem?_range hl,Option.some.injEq] at a2;exact⟨a1,by omega⟩
def Flat.bin{P:Program}{t:TypeId}{ks:List Nat}(h:Flat P t ks){us vs:List Value}{r:Bool}(h1:fF ks us)(h2:fF ks vs)(h3:YG us vs=some r)(x y:Operand) :
   L7 P .eql t x y (.agg (us.map .sc)) (.agg (vs.map .sc))=some (.sc (.bool r))/\L7 P .neq t x y (.agg (us.map .sc)) (.agg (vs.map .sc))=some (.sc (.bool (!r))):=by
 have ht:∀l:List Value,Ul (.agg (l.map .sc))=some (.agg l.toArray):=λl=>by simp only[Ul,wH,Option.map_some]
 have hv:=h.pv h1 h2 h3
 have e1:AI.pv P (do eqGuard .eql t x y (.agg us.toArray) (.agg vs.toArray);binOp .eql t (.agg us.toArray) (.agg vs.toArray))=some (.bool r):=by
   rw[Jy,iB _ _ _ _ _ _ h.hm];simp only[Option.bind_some,binOp,Jy,Op.equal,Op.maxDepth];rw[show(10000:Nat)=9998+1+1 from rfl,hv];rfl
 have e2:AI.pv P (do eqGuard .neq t x y (.agg us.toArray) (.agg vs.toArray);binOp .neq t (.agg us.toArray) (.agg vs.toArray))=some (.bool (!r)):=by
   rw[Jy,iB _ _ _ _ _ _ h.hm];simp only[Option.bind_some,binOp,Jy,Op.equal,Op.maxDepth];rw[show(10000:Nat)=9998+1+1 from rfl,hv];rfl
 refine⟨?_,?_⟩;show Sd _ _ _ _ _ (.agg _) (.agg _)=_;unfold Sd;simp only[ht,e1,Option.bind_some];rfl;show Sd _ _ _ _ _ (.agg _) (.agg _)=_;unfold Sd;simp only[ht,e2,Option.bind_some];rfl
def ayJ(x y:Int):Int:=if y > x then y else x
end AI
namespace AI
open Go Go.RowKit
mutual
inductive Rn(k j:Nat)(ρ σ:Nat->Nat):AV->AV->Prop where
 | pl {a:AV} (h:plain a=true):Rn k j ρ σ a a
 | ptr {i off:Nat} (h:i < k):Rn k j ρ σ (.ptr i off) (.ptr (ρ i) off)
 | mp {i:Nat} (h:i < k):Rn k j ρ σ (.mp i) (.mp (ρ i))
 | msl {i off n:Nat} (h:i < k):Rn k j ρ σ (.msl i off n) (.msl (ρ i) off n)
 | row {r sz n:Nat} {cs:List AV} (h:r < j) (hp:BA cs=true):Rn k j ρ σ (.sl (.row r sz) n cs) (.sl (.row (σ r) sz) n cs)
 | agg {cs ds:List AV} (h:TE k j ρ σ cs ds):Rn k j ρ σ (.agg cs) (.agg ds)
 | Df {cs ds:List AV} (h:TE k j ρ σ cs ds):Rn k j ρ σ (.Df cs) (.Df ds)
 | fn {f:Fn} {a a' b b':List AV} (h1:TE k j ρ σ a a') (h2:TE k j ρ σ b b'):Rn k j ρ σ (.fn f a b) (.fn f a' b')
inductive TE(k j:Nat)(ρ σ:Nat->Nat):List AV->List AV->Prop where
 | nil:TE k j ρ σ [] []
 | cons {a b:AV} {l m:List AV} (h:Rn k j ρ σ a b) (t:TE k j ρ σ l m):TE k j ρ σ (a::l) (b::m)
end
inductive tA(k j:Nat)(ρ σ:Nat->Nat):AL->AL->Prop where
 | cells {cs ds:List AV} (h:TE k j ρ σ cs ds):tA k j ρ σ (.cells cs) (.cells ds)
 | map {es:List (Value×AV×Nat)} {cl:Nat} (h:∀e∈es,plain e.2.1=true):tA k j ρ σ (.map es cl) (.map es cl)
def TE.pl{k j:Nat}{ρ σ:Nat->Nat}:∀{l:List AV},BA l=true->TE k j ρ σ l l
 | [],_=>.nil
 | a::l,h=>by
   simp only[BA,Bool.and_eq_true] at h;exact .cons (.pl h.1) (TE.pl h.2)
section
variable {c c':Cx} {w w':World} {k j:Nat} {ρ σ:Nat->Nat}
structure Dn(k j:Nat)(ρ σ:Nat->Nat)(c:Cx)(w:World)(c0:Cx)(w0:World):Prop where
 Y2:∀g i v,Lq c w g i v->Lq c0 w0 g i v
 CN:∀i g,i < k->c.CN[ρ i]?=some (some g)->c0.CN[i]?=some (some g)
 rows:∀r,r < j->∃x,c.rows[σ r]?=some x/\c0.rows[r]?=some x
structure Up(k j:Nat)(ρ σ:Nat->Nat)(c0:Cx)(w0:World)(c:Cx)(w:World):Prop where
 Y2:∀g i v,Lq c0 w0 g i v->Lq c w g i v
 CN:∀i g,i < k->c0.CN[i]?=some (some g)->c.CN[ρ i]?=some (some g)
 rows:∀r,r < j->∃x,c.rows[σ r]?=some x/\c0.rows[r]?=some x
mutual
def Rn.down(d:Dn k j ρ σ c w c' w'):∀{a b:AV} {v:Value},Rn k j ρ σ a b->Rp c w b v->Rp c' w' a v:=by
 intro a b v hn h;cases hn with
 | pl hp=>exact h.plain d.Y2 hp
 | ptr hi=>cases h with | ptr h1=>exact .ptr (d.CN _ _ hi h1)
 | mp hi=>cases h with | mp h1=>exact .mp (d.CN _ _ hi h1)
 | msl hi=>cases h with | msl hn h1=>exact .msl hn (d.CN _ _ hi h1)
 | @row r sz n cs hr hp =>
   obtain⟨x,hx,hx0⟩:=d.rows r hr;have hl:=(List.getElem?_eq_some_iff.1 hx0).1;cases h with
   | sl0 h0=>exact .sl0 ⟨h0.1,hl⟩
   | Kx hn hc ho =>
     refine .Kx hn (hc.plain d.Y2 hp) ⟨ho.1,ho.2.1,hl,λe=>ho.2.2.2.1 ?_,λg' n' cap' MP e=>ho.2.2.2.2 g' n' cap' MP ?_⟩;rw[hx,<- hx0];exact e;rw[hx,<- hx0];exact e
 | agg h1=>cases h with | agg h2=>exact .agg (TE.down d h1 h2)
 | Df h1=>cases h with | Df h2=>exact .Df (TE.down d h1 h2)
 | fn h1 h2=>cases h with | fn h3 h4=>exact .fn (TE.down d h1 h3) (TE.down d h2 h4)
def TE.down(d:Dn k j ρ σ c w c' w'):∀{a b:List AV} {v:List Value},TE k j ρ σ a b->Cz c w b v->Cz c' w' a v:=by
 intro a b v hn h;cases hn with
 | nil=>cases h;exact .nil
 | cons h1 t=>cases h with | cons h2 t2=>exact .cons (Rn.down d h1 h2) (TE.down d t t2)
end
mutual
def Rn.up(d:Up k j ρ σ c w c' w'):∀{a b:AV} {v:Value},Rn k j ρ σ a b->Rp c w a v->Rp c' w' b v:=by
 intro a b v hn h;cases hn with
 | pl hp=>exact h.plain d.Y2 hp
 | ptr hi=>cases h with | ptr h1=>exact .ptr (d.CN _ _ hi h1)
 | mp hi=>cases h with | mp h1=>exact .mp (d.CN _ _ hi h1)
 | msl hi=>cases h with | msl hn h1=>exact .msl hn (d.CN _ _ hi h1)
 | @row r sz n cs hr hp =>
   obtain⟨x,hx,hx0⟩:=d.rows r hr;have hl:=(List.getElem?_eq_some_iff.1 hx).1;cases h with
   | sl0 h0=>exact .sl0 ⟨h0.1,hl⟩
   | Kx hn hc ho =>
     refine .Kx hn (hc.plain d.Y2 hp) ⟨ho.1,ho.2.1,hl,λe=>ho.2.2.2.1 ?_,λg' n' cap' MP e=>ho.2.2.2.2 g' n' cap' MP ?_⟩;rw[hx0,<- hx];exact e;rw[hx0,<- hx];exact e
 | agg h1=>cases h with | agg h2=>exact .agg (TE.up d h1 h2)
 | Df h1=>cases h with | Df h2=>exact .Df (TE.up d h1 h2)
 | fn h1 h2=>cases h with | fn h3 h4=>exact .fn (TE.up d h1 h3) (TE.up d h2 h4)
def TE.up(d:Up k j ρ σ c w c' w'):∀{a b:List AV} {v:List Value},TE k j ρ σ a b->Cz c w a v->Cz c' w' b v:=by
 intro a b v hn h;cases hn with
 | nil=>cases h;exact .nil
 | cons h1 t=>cases h with | cons h2 t2=>exact .cons (Rn.up d h1 h2) (TE.up d t t2)
end
def J7.plain(hv:∀g i v,Lq c w g i v->Lq c' w' g i v):∀{es:List (Value×AV×Nat)} {fs:List MapEntry},(∀e∈es,AI.plain e.2.1=true)->J7 c w es fs->J7 c' w' es fs:=by
 intro es
 induction es with
 | nil=>intro fs _ h;cases h;exact .nil
 | cons e es ih =>
   intro fs hp h;cases h with | cons h1 t=>exact .cons (h1.plain hv (hp _ List.mem_cons_self)) (ih (λx hx=>hp x (List.mem_cons_of_mem _ hx)) t)
def tA.down(d:Dn k j ρ σ c w c' w'){a b:AL}{o:Obj}(hn:tA k j ρ σ a b)(h:EY c w b o):EY c' w' a o:=by
 cases hn with
 | cells h1=>cases h with | G5 ext h2=>exact .G5 ext (TE.down d h1 h2)
 | map hp=>cases h with | map h2=>exact .map (h2.plain d.Y2 hp)
def tA.up(d:Up k j ρ σ c w c' w'){a b:AL}{o:Obj}(hn:tA k j ρ σ a b)(h:EY c w a o):EY c' w' b o:=by
 cases hn with
 | cells h1=>cases h with | G5 ext h2=>exact .G5 ext (TE.up d h1 h2)
 | map hp=>cases h with | map h2=>exact .map (h2.plain d.Y2 hp)
end
structure Upd(k j:Nat)(ρ σ:Nat->Nat)(h2:List (Nat×AL))(F2:List (Nat×Nat))(s s2:AS):Prop where
 nx:s2.nx=s.nx
 nr:s2.nr=s.nr
 desc:∀n,I2 s.h n->I2 s2.h n
 get:∀id b,s2.get id=some b->(∃i b0,i < k/\id=ρ i/\look i h2=some b0/\tA k j ρ σ b0 b)\/((∀i,i < k->id≠ρ i)/\s.get id=some b)
 tok:∀q n,DW q s2.F=some n->(∃r,r < j/\q=σ r/\DW r F2=some n)\/((∀r,r < j->q≠σ r)/\DW q s.F=some n)
def RnR(k j:Nat)(ρ σ:Nat->Nat):CR->CR->Prop
 | .ret v,.ret v'=>Rn k j ρ σ v v'
 | .pan v,.pan v'=>Rn k j ρ σ v v'
 | _,_=>False
def atV{P:Program}{G:A6}(hG:∀g cs,G g=some cs->BA cs=true){f:FuncId}{args WV:List AV}{r r':CR}{hm h2:List (Nat×AL)}{k j:Nat}{Fm F2:List (Nat×Nat)}(h:Sound P G (.call f args ⟨hm,k,Fm,j⟩ r ⟨h2,k,F2,j⟩))(hd:I2 hm k)
   (ρ σ:Nat->Nat) (aHQ:∀i i',i < k->i' < k->ρ i=ρ i'->i=i') (arD:∀i i',i < j->i' < j->σ i=σ i'->i=i') (Gh:TE k j ρ σ args WV)
   {s s2:AS} (OC:∀i b,i < k->look i hm=some b->∃b',s.get (ρ i)=some b'/\tA k j ρ σ b b')
   (Ra:∀cx w vs,St G cx w s->Cz cx w WV vs->∀i,i < k->∃g,cx.CN[ρ i]?=some (some g))
   (aAR:∀q n,q < j->DW q Fm=some n->DW (σ q) s.F=some n) (aAQ:∀q,q < j->∃n,DW q Fm=some n) (hFm:∀q n,DW q Fm=some n->q < j)
   (hr:RnR k j ρ σ r r')
   (hu:Upd k j ρ σ h2 F2 s s2):Sound P G (.call f WV s r' s2):=by
 intro cx w vs hs ha;have hph:=Ra cx w vs hs ha
 have hg:∀i:Nat,∃g,i < k->cx.CN[ρ i]?=some (some g):=λi=>by
   by_cases hi:i < k;obtain⟨g,hg⟩:=hph i hi;exact⟨g,λ_=>hg⟩;exact⟨0,λh=>absurd h hi⟩
 obtain⟨gs,hgs⟩:=Classical.axiomOfChoice hg
 have hrw:∀q:Nat,∃x,q < j->cx.rows[σ q]?=some x:=λq=>by
   by_cases hq:q < j;obtain⟨n,hn⟩:=aAQ q hq;rcases hs.Ix _ _ (aAR q n hq hn) with ⟨h1,_⟩ | ⟨g,cap,sz,h1⟩
   exact⟨_,λ_=>h1⟩;exact⟨_,λ_=>h1⟩;exact⟨.gone,λh=>absurd h hq⟩
 obtain⟨rw,hrw⟩:=Classical.axiomOfChoice hrw;have mD:∀i,i < k->some (gs i)∈cx.CN:=λi hi=>List.mem_of_getElem? (hgs i hi);have hgi:∀i i',i < k->i' < k->gs i=gs i'->i=i':=λi i' hi OU e=>aHQ i i' hi OU (hs.nodup _ _ _ (hgs i hi) (by rw[e];exact hgs i' OU));let K:Nat->Prop:=λq=>(∃i,i < k/\q=gs i)\/∃r n cap sz,r < j/\cx.rows[σ r]?=some (.QD q n cap sz);let c0:Cx:=⟨0,(List.range k).map λi=>some (gs i),(List.range j).map rw,λq i=>¬K q/\cx.YZ q i⟩
 have Vt:∀(i g:Nat),c0.CN[i]?=some (some g)↔i < k/\g=gs i:=by
   intro i g;show((List.range k).map λi=>some (gs i))[i]?=some (some g)↔_;rw[List.getElem?_map];by_cases hi:i < k;rw[List.getElem?_range hi];simp[hi,eq_comm];rw[List.getElem?_eq_none (by simp;omega)];simp[hi]
 have pP:∀g,some g∈c0.CN->∃i,i < k/\g=gs i:=by
   intro g Xs;obtain⟨i,hi,e⟩:=List.mem_map.1 Xs;exact⟨i,List.mem_range.1 hi,(Option.some.inj e).symm⟩
 have Zo:∀(q:Nat) x,c0.rows[q]?=some x->q < j/\cx.rows[σ q]?=some x:=by
   intro q x hx;have hx:((List.range j).map rw)[q]?=some x:=hx;have hl:=(List.getElem?_eq_some_iff.1 hx).1;simp at hl;rw[List.getElem?_map,List.getElem?_range hl] at hx;simp at hx;subst hx;exact⟨hl,hrw q hl⟩
 have mG:∀q,q < j->c0.rows[q]?=some (rw q):=by
   intro q hq;show((List.range j).map rw)[q]?=some (rw q);rw[List.getElem?_map,List.getElem?_range hq];rfl
 have abW:c0.rows.length=j:=by show((List.range j).map rw).length=j;simp
 have Ia:∀g i x,Lq cx w g i x->Lq c0 w g i x:=by
   intro g i x hx;refine⟨hx.1,λGi=>?_,hx.2.2⟩;rcases Gi with Gi | ⟨r,n,cap,sz,hr,h1,h2⟩ | Gi
   obtain⟨i',OU,rfl⟩:=pP g Gi;exact hx.2.1 (.inl (mD i' OU));exact hx.2.1 (.inr (.inl ⟨σ r,n,cap,sz,(Zo _ _ hr).2,h1,h2⟩));exact hx.2.1 Gi.2
 have hdn:Dn k j ρ σ cx w c0 w:=⟨Ia,λi g hi Xs=>by
   rw[Vt];rw[hgs i hi] at Xs;cases Xs;exact⟨hi,rfl⟩,λq hq=>⟨rw q,hrw q hq,mG q hq⟩⟩
 have FW:St G c0 w ⟨hm,k,Fm,j⟩:=by
   refine⟨by simp[c0],hd,λi i' g h1 h2=>?_,λg _=>Nat.zero_le _,λid g b h1 h2=>?_,abW.symm,λq g n cap sz hq=>?_,λq n hq=>?_,λg Xs=>?_,(λq i hb=>hs.Tf hb.2),λq q' g n cap sz n' cap' MP h1 h2=>?_,(λg cs Xs=>A9.plain Ia (hG g cs Xs) (hs.Ma g cs Xs)),Nat.zero_le _⟩;obtain⟨hi,e1⟩:=(Vt i g).1 h1;obtain⟨OU,e2⟩:=(Vt i' g).1 h2;exact hgi i i' hi OU (e1.symm.trans e2);obtain⟨hi,rfl⟩:=(Vt id g).1 h1;obtain⟨b',VS,hn⟩:=OC id b hi h2;obtain⟨o,ho,hb⟩:=hs.box (ρ id) (gs id) _ (hgs id hi) VS;exact⟨o,ho,hn.down hdn hb⟩;obtain⟨hq1,YD⟩:=Zo _ _ hq;obtain⟨_,_,a3,a4,a5⟩:=hs.row _ _ _ _ _ YD;refine⟨λi hb=>hb.1 (.inr ⟨q,n,cap,sz,hq1,YD⟩),Nat.zero_le _,λhm'=>?_,a4,a5⟩;obtain⟨i,hi,rfl⟩:=pP g hm';exact a3 (mD i hi);have hlt:=hFm q n hq;have:=hs.Ix _ _ (aAR q n hlt hq);rw[hrw q hlt] at this;rw[mG q hlt];exact this;obtain⟨i,hi,rfl⟩:=pP g Xs;exact hs.Mg (mD i hi);obtain⟨a1,a2⟩:=Zo _ _ h1;obtain⟨b1,b2⟩:=Zo _ _ h2;exact arD _ _ a1 b1 (hs.Ig _ _ _ _ _ _ _ _ _ a2 b2)
 refine(h c0 w vs FW (Gh.down hdn ha)).mono ?_;rintro e w' ⟨c',hx,Mb,fQ⟩
 have pQ:c'.CN=c0.CN:=by
   obtain⟨t,ht⟩:=hx.CN;have h1:c'.CN.length=k:=Mb.len.symm;have h2:c0.CN.length=k:=by simp[c0]
   rw[<- ht,List.length_append,h2] at h1;have:t=[]:=List.eq_nil_of_length_eq_zero (by omega);rw[<- ht,this,List.append_nil]
 have auQ:c'.rows.length=j:=Mb.Ip.symm;have abX:∀q,q < j->∃y,c'.rows[q]?=some y:=λq hq=>⟨_,List.getElem?_eq_getElem (by rw[auQ];exact hq)⟩
 have hle:∀q y,q < j->c'.rows[q]?=some y->J8 (rw q) y:=by
   intro q y hq hy;obtain⟨x,h1,h2⟩:=hx.rows q y (by rw[abW];exact hq) hy;rw[mG q hq] at h1;cases h1;exact h2
 let iJ:List Rw:=(List.range cx.rows.length).map λq=>open Classical in if hq:∃r,r < j/\σ r=q then c'.rows.getD (Classical.choose hq) .gone else cx.rows.getD q .gone
 have abY:iJ.length=cx.rows.length:=by simp[iJ]
 have YL:∀r,r < j->iJ[σ r]?=c'.rows[r]?:=by
   intro r hr;have hl:=(List.getElem?_eq_some_iff.1 (hrw r hr)).1;show((List.range cx.rows.length).map _)[σ r]?=_;rw[List.getElem?_map,List.getElem?_range hl];simp only[Option.map_some];have hq:∃r',r' < j/\σ r'=σ r:=⟨r,hr,rfl⟩;rw[dif_pos hq];have hc:=Classical.choose_spec hq;have:Classical.choose hq=r:=arD _ _ hc.1 hr hc.2;rw[this];obtain⟨y,hy⟩:=abX r hr;rw[List.getD_eq_getElem?_getD,hy];rfl
 have bA:∀q,(∀r,r < j->q≠σ r)->iJ[q]?=cx.rows[q]?:=by
   intro q hq;by_cases hl:q < cx.rows.length;show((List.range cx.rows.length).map _)[q]?=_;rw[List.getElem?_map,List.getElem?_range hl];simp only[Option.map_some];rw[dif_neg (by rintro⟨r,h1,h2⟩;exact hq r h1 h2.symm),List.getD_eq_getElem?_getD,List.getElem?_eq_getElem hl];rfl;rw[List.getElem?_eq_none (by omega),List.getElem?_eq_none (by omega)]
 have Su:∀q:Nat,(∃r,r < j/\q=σ r)\/∀r,r < j->q≠σ r:=λq=>by
   by_cases hq:∃r,r < j/\q=σ r;exact .inl hq;exact .inr λr h1 h2=>hq ⟨r,h1,h2⟩
 have Lf:∀r g n cap sz,r < j->c'.rows[r]?=some (.QD g n cap sz)->(∃r0 n0 Q3 jA,r0 < j/\cx.rows[σ r0]?=some (.QD g n0 Q3 jA))\/w.heap.size<=g:=by
   intro r g n cap sz hr hy;rcases hx.YV _ _ _ _ _ hy with ⟨r0,n0,Q3,jA,h1⟩ | h1
   obtain⟨h2,h3⟩:=Zo _ _ h1;exact .inl ⟨r0,n0,Q3,jA,h2,h3⟩;exact .inr h1
 have NS:=hx.below
 have SQ:QO w w' K:=⟨NS.os,NS.tape,NS.output,NS.size,λq hq hne=>hx.GF q hq (λhm'=>hne (.inl (pP q hm'))) (λr n cap sz hr=>hne (by
   obtain⟨h1,h2⟩:=Zo _ _ hr;exact .inr ⟨r,n,cap,sz,h1,h2⟩))⟩
 have hKb:∀q,K q->cx.base<=q:=by
   rintro q (⟨i,hi,rfl⟩ | ⟨r,n,cap,sz,hr,h1⟩);exact hs.low _ (mD i hi);exact(hs.row _ _ _ _ _ h1).2.1
 let c1:Cx:=⟨cx.base,cx.CN,iJ,cx.bad⟩
 have fW:∀g i x,Lq c' w' g i x->Lq c1 w' g i x:=by
   intro g i x hv;refine⟨hv.1,λGi=>hv.2.1 ?_,hv.2.2⟩;have Ks:¬K g->cx.YZ g i->c'.YZ g i:=λh1 h2=>.inr (.inr (by rw[hx.bad];exact⟨h1,h2⟩));rcases Gi with Gi | ⟨q,n,cap,sz,hq,h1,h2⟩ | Gi
   by_cases hK:K g;rcases hK with ⟨i',OU,rfl⟩ | ⟨r,n,cap,sz,hr,h1⟩
   refine .inl ?_;rw[pQ];exact List.mem_of_getElem? ((Vt i' (gs i')).2 ⟨OU,rfl⟩);exact absurd Gi (hs.row _ _ _ _ _ h1).2.2.1;exact Ks hK (.inl Gi);rcases Su q with ⟨r,hr,rfl⟩ | kN
   simp only[c1] at hq;rw[YL r hr] at hq;exact .inr (.inl ⟨r,n,cap,sz,hq,h1,h2⟩);simp only[c1] at hq;rw[bA q kN] at hq;refine Ks ?_ (.inr (.inl ⟨q,n,cap,sz,hq,h1,h2⟩));rintro(⟨i',OU,rfl⟩ | ⟨r,n',cap',MP,hr,h3⟩);exact(hs.row _ _ _ _ _ hq).2.2.1 (mD i' OU);exact kN r hr (hs.Ig _ _ _ _ _ _ _ _ _ hq h3);by_cases hK:K g;rcases hK with ⟨i',OU,rfl⟩ | ⟨r,n,cap,sz,hr,h1⟩
   refine .inl ?_;rw[pQ];exact List.mem_of_getElem? ((Vt i' (gs i')).2 ⟨OU,rfl⟩);exact absurd Gi ((hs.row _ _ _ _ _ h1).1 i);exact Ks hK (.inr (.inr Gi))
 have ext:Ext cx w c1 w':=by
   refine⟨List.prefix_refl _,by simp[c1,abY],λq y hq hy=>?_,λg i x hv=>fW g i x (hx.Y2 g i x (Ia g i x hv)),SQ.below hs.PB hKb,rfl,rfl,λ_ h=>.inl h,λq g n cap sz hq=>?_,λq hq hp hr=>SQ.block q hq ?_⟩;rcases Su q with ⟨r,hr,rfl⟩ | kN
   simp only[c1] at hy;rw[YL r hr] at hy;exact⟨rw r,hrw r hr,hle r y hr hy⟩;simp only[c1] at hy;rw[bA q kN] at hy;exact⟨y,hy,J8.refl y⟩;rcases Su q with ⟨r,hr,rfl⟩ | kN
   simp only[c1] at hq;rw[YL r hr] at hq;rcases Lf _ _ _ _ _ hr hq with ⟨r0,n0,Q3,jA,_,h1⟩ | h1
   exact .inl ⟨_,_,_,_,h1⟩;exact .inr h1;simp only[c1] at hq;rw[bA q kN] at hq;exact .inl ⟨_,_,_,_,hq⟩;rintro(⟨i',OU,rfl⟩ | ⟨r,n',cap',MP,Wg,h3⟩);exact hp (mD i' OU);exact hr _ _ _ _ h3
 have hup:Up k j ρ σ c' w' c1 w':=⟨fW,λi g hi Xs=>by
   rw[pQ,Vt] at Xs;obtain⟨_,rfl⟩:=Xs;exact hgs i hi,λq hq=>by
   obtain⟨y,hy⟩:=abX q hq;exact⟨y,by simp only[c1];rw[YL q hq];exact hy,hy⟩⟩
 have st1:St G c1 w' s2:=by
   refine⟨by rw[hu.nx,hs.len],by rw[hu.nx];exact hu.desc _ hs.desc,hs.nodup,hs.low,λid g b h1 h2=>?_,by rw[hu.nr,hs.Ip];exact abY.symm,λq g n cap sz hq=>?_,λq n hq=>?_,λg Xs=>Nat.lt_of_lt_of_le (hs.L0 g Xs) SQ.size,λg i hb=>Nat.lt_of_lt_of_le (hs.L8 g i hb) SQ.size,λq q' g n cap sz n' cap' MP h1 h2=>?_,λg cs Xs=>(hs.Ma g cs Xs).mono ext,Nat.le_trans hs.PB SQ.size⟩;rcases hu.get id b h2 with ⟨i,b0,hi,rfl,hb0,hn⟩ | ⟨hne,h3⟩
   obtain⟨o,ho,hb⟩:=Mb.box i (gs i) b0 (by rw[pQ];exact(Vt i (gs i)).2 ⟨hi,rfl⟩) hb0;have h1:cx.CN[ρ i]?=some (some g):=h1;rw[hgs i hi] at h1;cases h1;exact⟨o,ho,hn.up hup hb⟩;obtain⟨o,ho,hb⟩:=hs.box id g b h1 h3;refine⟨o,?_,hb.mono ext⟩;rw[SQ.block g (Array.getElem?_eq_some_iff.1 ho).1 ?_];exact ho;rintro(⟨i',OU,rfl⟩ | ⟨r,n',cap',MP,Wg,h4⟩);exact hne i' OU (hs.nodup _ _ _ h1 (hgs i' OU));exact(hs.row _ _ _ _ _ h4).2.2.1 (List.mem_of_getElem? h1);simp only[c1] at hq ⊢;rcases Su q with ⟨r,Wg,rfl⟩ | kN
   rw[YL r Wg] at hq;obtain⟨a1,a2,a3,a4,a5⟩:=Mb.row _ _ _ _ _ hq;rcases Lf _ _ _ _ _ Wg hq with ⟨r0,n0,Q3,jA,_,h4⟩ | h4
   obtain⟨b1,b2,b3,_⟩:=hs.row _ _ _ _ _ h4;exact⟨b1,b2,b3,a4,a5⟩;refine⟨λi hb=>?_,Nat.le_trans hs.PB h4,λhm'=>?_,a4,a5⟩;have:=hs.L8 _ _ hb;omega;have:=hs.Mg hm';omega;rw[bA q kN] at hq;obtain⟨a1,a2,a3,a4,vs',T,a5,a6⟩:=hs.row _ _ _ _ _ hq;refine⟨a1,a2,a3,a4,vs',T,?_,a6⟩;rw[SQ.block g (Array.getElem?_eq_some_iff.1 a5).1 ?_];exact a5;rintro(⟨i',OU,rfl⟩ | ⟨r,n',cap',MP,Wg,h4⟩);exact a3 (mD i' OU);exact kN r Wg (hs.Ig _ _ _ _ _ _ _ _ _ hq h4);simp only[c1];rcases hu.tok q n hq with ⟨r,Wg,rfl,h3⟩ | ⟨kN,h3⟩
   rw[YL r Wg];exact Mb.Ix r n h3;rw[bA q kN];exact hs.Ix q n h3;simp only[c1] at h1 h2
   have key:∀r q,r < j->(∀r',r' < j->q≠σ r')->∀n cap sz n' cap' MP,c'.rows[r]?=some (.QD g n cap sz)->cx.rows[q]?=some (.QD g n' cap' MP)->False:=by
     intro r q Wg kN n cap sz n' cap' MP e1 e2;rcases Lf _ _ _ _ _ Wg e1 with ⟨r0,n0,Q3,jA,pU,h4⟩ | h4
     exact kN r0 pU (hs.Ig _ _ _ _ _ _ _ _ _ e2 h4);have:=hs.Mh e2;omega
   rcases Su q with ⟨r,Wg,rfl⟩ | hq1<;>rcases Su q' with ⟨r2,hr2,rfl⟩ | YD
   rw[YL r Wg] at h1;rw[YL r2 hr2] at h2;rw[Mb.Ig _ _ _ _ _ _ _ _ _ h1 h2];rw[YL r Wg] at h1;rw[bA q' YD] at h2;exact(key r q' Wg YD _ _ _ _ _ _ h1 h2).elim;rw[bA q hq1] at h1;rw[YL r2 hr2] at h2;exact(key r2 q hr2 hq1 _ _ _ _ _ _ h2 h1).elim;rw[bA q hq1] at h1;rw[bA q' YD] at h2;exact hs.Ig _ _ _ _ _ _ _ _ _ h1 h2
 refine⟨c1,ext,st1,?_⟩;cases r with
 | ret v =>
   cases r' with
   | ret v' =>
     obtain⟨u,rfl,hu'⟩:=fQ;exact⟨u,rfl,Rn.up hup hr hu'⟩
   | pan v'=>exact hr.elim
 | pan v =>
   cases r' with
   | ret v'=>exact hr.elim
   | pan v' =>
     obtain⟨u,rfl,hu'⟩:=fQ;exact⟨u,rfl,Rn.up hup hr hu'⟩
end AI
namespace AI
open Go Go.RowKit
def Iu:List AL->Nat->List (Nat×AL)->List (Nat×AL)
 | [],_,acc=>acc
 | b::l,n,acc=>Iu l (n+1) ((n,b)::acc)
def oC:List Nat->Nat->List (Nat×Nat)
 | [],_=>[]
 | k::l,n=>(n,k)::oC l (n+1)
def mU{M:List AL}:∀{n:Nat} {acc:List (Nat×AL)} {i:Nat} {b:AL},I2 acc n->look i (Iu M n acc)=some b->(n<=i/\M[i - n]?=some b)\/look i acc=some b:=by
 induction M with
 | nil=>intro n acc i b _ h;exact .inr h
 | cons x M ih =>
   intro n acc i b hd h;rcases ih (n:=n+1) (acc:=(n,x)::acc) ⟨Nat.lt_succ_self n,hd⟩ h with ⟨h1,h2⟩ | h1
   refine .inl ⟨by omega,?_⟩;rw[show i - n=(i - (n+1))+1 by omega];exact h2;simp only[look] at h1;split at h1;rename_i hb;have:=beq_true hb;subst this;cases h1;exact .inl ⟨Nat.le_refl _,by simp⟩;exact .inr h1
def lH{M:List AL}:∀{n:Nat} {acc:List (Nat×AL)},I2 acc n->I2 (Iu M n acc) (n+M.length):=by
 induction M with
 | nil=>intro n acc h;exact h
 | cons x M ih =>
   intro n acc h;have:=ih (n:=n+1) (acc:=(n,x)::acc) ⟨Nat.lt_succ_self n,h⟩;rw[List.length_cons,show n+(M.length+1)=n+1+M.length by omega];exact this
def UZ{T:List Nat}:∀{n r k:Nat},DW r (oC T n)=some k->n<=r/\T[r - n]?=some k:=by
 induction T with
 | nil=>intro n r k h;cases h
 | cons x T ih =>
   intro n r k h;simp only[oC,DW] at h;split at h;rename_i hb;have:=beq_true hb;subst this;cases h;exact⟨Nat.le_refl _,by simp⟩;obtain⟨h1,h2⟩:=ih h;refine⟨by omega,?_⟩;rw[show r - n=(r - (n+1))+1 by omega];exact h2
def ZN{T:List Nat}:∀{n r:Nat},n<=r->r - n < T.length->∃k,DW r (oC T n)=some k:=by
 induction T with
 | nil=>intro n r _ h;simp at h
 | cons x T ih =>
   intro n r h1 h2;simp only[oC,DW];split;exact⟨_,rfl⟩;rename_i hb;have:=beq_false hb;exact ih (by omega) (by simp at h2;omega)
inductive WJ(k j:Nat)(ρ σ:Nat->Nat):List AL->List (Nat×AL)->Prop where
 | nil:WJ k j ρ σ [] []
 | cons {b b':AL} {i:Nat} {l:List AL} {m:List (Nat×AL)} (h:tA k j ρ σ b b') (t:WJ k j ρ σ l m):WJ k j ρ σ (b::l) ((i,b')::m)
def WJ.len{k j:Nat}{ρ σ:Nat->Nat}{l:List AL}{m:List (Nat×AL)}(h:WJ k j ρ σ l m):l.length=m.length:=by
 induction h with
 | nil=>rfl
 | cons _ _ ih=>simp[ih]
def WJ.get{k j:Nat}{ρ σ:Nat->Nat}{l:List AL}{m:List (Nat×AL)}(h:WJ k j ρ σ l m):∀{i:Nat} {b:AL},l[i]?=some b->∃e,m[i]?=some e/\tA k j ρ σ b e.2:=by
 induction h with
 | nil=>intro i b hb;simp at hb
 | cons h _ ih =>
   intro i b hb;cases i with
   | zero=>simp at hb;subst hb;exact⟨_,rfl,h⟩
   | succ i=>exact ih (by simpa using hb)
def WJ.aGY{k j:Nat}{ρ σ:Nat->Nat}{l:List AL}{m:List (Nat×AL)}(h:WJ k j ρ σ l m):∀{i:Nat} {e:Nat×AL},m[i]?=some e->∃b,l[i]?=some b/\tA k j ρ σ b e.2:=by
 induction h with
 | nil=>intro i b hb;simp at hb
 | cons h _ ih =>
   intro i b hb;cases i with
   | zero=>simp at hb;subst hb;exact⟨_,rfl,h⟩
   | succ i=>exact ih (by simpa using hb)
def jE:∀(l:List (Nat×AL)) (s:AS) (id:Nat) (b:AL),(s.Vd l).get id=some b->(∃e∈l,e.1=id/\e.2=b)\/((∀e∈l,e.1≠id)/\s.get id=some b)
 | [],s,id,b,h=>.inr ⟨(λe he=>by cases he),h⟩
 | e::l,s,id,b,h=>by
   rcases jE l (s.put e.1 e.2) id b h with ⟨x,hx,h1⟩ | ⟨h1,h2⟩
   exact .inl ⟨x,List.mem_cons_of_mem _ hx,h1⟩;rcases Yn h2 with ⟨h3,h4⟩ | ⟨h3,h4⟩
   exact .inl ⟨e,List.mem_cons_self,h3.symm,h4.symm⟩;refine .inr ⟨λx hx=>?_,h4⟩;rcases List.mem_cons.1 hx with rfl | hx
   exact λe=>h3 e.symm;exact h1 x hx
def ZR:∀(l:List (Nat×AL)) (s:AS),(s.Vd l).nx=s.nx/\(s.Vd l).nr=s.nr/\(s.Vd l).F=s.F/\∀n,I2 s.h n->I2 (s.Vd l).h n
 | [],s=>⟨rfl,rfl,rfl,λ_ h=>h⟩
 | e::l,s=>by
   obtain⟨h1,h2,h3,h4⟩:=ZR l (s.put e.1 e.2);exact⟨h1,h2,h3,λn h=>h4 n (Ym h)⟩
def Zi:∀(l:List (Nat×Nat)) (s:AS) (q n:Nat),DW q (s.Sr l).F=some n->(∃e∈l,e.1=q/\e.2=n)\/((∀e∈l,e.1≠q)/\DW q s.F=some n)
 | [],s,q,n,h=>.inr ⟨(λe he=>by cases he),h⟩
 | e::l,s,q,n,h=>by
   rcases Zi l _ q n h with ⟨x,hx,h1⟩ | ⟨h1,h2⟩
   exact .inl ⟨x,List.mem_cons_of_mem _ hx,h1⟩;rcases ZI h2 with ⟨h3,h4,_⟩ | ⟨h3,h4⟩
   exact .inl ⟨e,List.mem_cons_self,h3.symm,h4.symm⟩;refine .inr ⟨λx hx=>?_,h4⟩;rcases List.mem_cons.1 hx with rfl | hx
   exact λe=>h3 e.symm;exact h1 x hx
def Xl:∀(l:List (Nat×Nat)) (s:AS),(s.Sr l).nx=s.nx/\(s.Sr l).nr=s.nr/\(s.Sr l).h=s.h
 | [],s=>⟨rfl,rfl,rfl⟩
 | e::l,s=>Xl l _
def Xk:∀{l:List (Nat×AL)} {s:AS},Xj s l=NP l->∀{i:Nat} {e:Nat×AL},l[i]?=some e->s.get e.1=some e.2
 | [],s,_,i,e,he=>by simp at he
 | x::l,s,h,i,e,he=>by
   simp only[Xj,NP,List.cons.injEq] at h;cases i with
   | zero=>simp at he;subst he;exact h.1
   | succ i=>exact Xk h.2 (by simpa using he)
def fJ:∀{l:List (Nat×Nat)} {F:List (Nat×Nat)},Ze F l=Om l->∀{i:Nat} {e:Nat×Nat},l[i]?=some e->DW e.1 F=some e.2
 | [],s,_,i,e,he=>by simp at he
 | x::l,s,h,i,e,he=>by
   simp only[Ze,Om,List.cons.injEq] at h;cases i with
   | zero=>simp at he;subst he;exact h.1
   | succ i=>exact fJ h.2 (by simpa using he)
mutual
inductive Occ(id:Nat):AV->Prop where
 | ptr {off:Nat}:Occ id (.ptr id off)
 | mp:Occ id (.mp id)
 | msl {off n:Nat}:Occ id (.msl id off n)
 | agg {cs:List AV} (h:TC id cs):Occ id (.agg cs)
 | fn1 {f:Fn} {a b:List AV} (h:TC id a):Occ id (.fn f a b)
 | fn2 {f:Fn} {a b:List AV} (h:TC id b):Occ id (.fn f a b)
inductive TC(id:Nat):List AV->Prop where
 | here {a:AV} {l:List AV} (h:Occ id a):TC id (a::l)
 | there {a:AV} {l:List AV} (h:TC id l):TC id (a::l)
end
mutual
def Occ.CN{c:Cx}{w:World}{id:Nat}:∀{a:AV} {v:Value},Occ id a->Rp c w a v->∃g,c.CN[id]?=some (some g):=by
 intro a v ho h;cases ho with
 | ptr=>cases h with | ptr h1=>exact⟨_,h1⟩
 | mp=>cases h with | mp h1=>exact⟨_,h1⟩
 | msl=>cases h with | msl hn h1=>exact⟨_,h1⟩
 | agg h1=>cases h with | agg h2=>exact TC.CN h1 h2
 | fn1 h1=>cases h with | fn h2 h3=>exact TC.CN h1 h2
 | fn2 h1=>cases h with | fn h2 h3=>exact TC.CN h1 h3
def TC.CN{c:Cx}{w:World}{id:Nat}:∀{a:List AV} {v:List Value},TC id a->Cz c w a v->∃g,c.CN[id]?=some (some g):=by
 intro a v ho h;cases ho with
 | here h1=>cases h with | cons h2 _=>exact Occ.CN h1 h2
 | there h1=>cases h with | cons _ h2=>exact TC.CN h1 h2
end
inductive Rch(args:List AV)(pre:List (Nat×AL)):Nat->Prop where
 | arg {id:Nat} (h:TC id args):Rch args pre id
 | box {i id p:Nat} {cs:List AV} (h:Rch args pre i) (hp:pre[p]?=some (i,.cells cs)) (ho:TC id cs):Rch args pre id
def Rch.CN{G:A6}{args:List AV}{pre:List (Nat×AL)}{s:AS}(hb:Xj s pre=NP pre){cx:Cx}{w:World}{vs:List Value}(hs:St G cx w s)(ha:Cz cx w args vs){id:Nat}(h:Rch args pre id):∃g,cx.CN[id]?=some (some g):=by
 induction h with
 | arg h=>exact h.CN ha
 | box h hp ho ih =>
   obtain⟨g,hg⟩:=ih;obtain⟨o,_,uL⟩:=hs.box _ g _ hg (Xk hb hp);cases uL with
   | G5 ext hr=>exact ho.CN hr
def KG{β:Type}(l:List (Nat×β))(i:Nat):Nat:=match l[i]? with
 | some e=>e.1
 | none=>0
def KH{β:Type}{l:List (Nat×β)}{i:Nat}{e:Nat×β}(h:l[i]?=some e):KG l i=e.1:=by unfold KG;rw[h]
def keys{β:Type}(l:List (Nat×β)):List Nat:=l.map (·.1)
def Zq{β:Type}{l:List (Nat×β)}(h:(keys l).Nodup){i i':Nat}(hi:i < l.length)(OU:i' < l.length)(e:KG l i=KG l i'):i=i':=by
 have h1:(keys l)[i]?=some (KG l i):=by
   unfold keys;rw[List.getElem?_map,List.getElem?_eq_getElem hi,KH (List.getElem?_eq_getElem hi)];rfl
 have h2:(keys l)[i']?=some (KG l i'):=by
   unfold keys;rw[List.getElem?_map,List.getElem?_eq_getElem OU,KH (List.getElem?_eq_getElem OU)];rfl
 rw[<- e] at h2;exact vE h h1 h2
def PR{β β':Type}{l:List (Nat×β)}{m:List (Nat×β')}(h:keys l=keys m)(i:Nat):KG l i=KG m i:=by
 have h1:=congrArg (λx=>x[i]?) h;unfold keys at h1;simp only[List.getElem?_map] at h1;unfold KG;cases hl:l[i]?<;>cases hm:m[i]?<;>rw[hl,hm] at h1<;>simp at h1<;>simp[h1]
def G7{P:Program}{G:A6}(hG:∀g cs,G g=some cs->BA cs=true){f:FuncId}{args WV:List AV}{r r':CR}{M M2:List AL}{T T2:List Nat}(pre Qf:List (Nat×AL))(tp tu:List (Nat×Nat)){k j:Nat}
   (h:Sound P G (.call f args ⟨Iu M 0 [],k,oC T 0,j⟩ r ⟨Iu M2 0 [],k,oC T2 0,j⟩))
   (hk:M.length=k) (hj:T.length=j) (hj2:T2.length=j)
   (hku:keys Qf=keys pre) (hkt:keys tu=keys tp) (O5:(keys pre).Nodup) (O6:(keys tp).Nodup)
   (htp:tp.map (·.2)=T) (htu:tu.map (·.2)=T2)
   (hb:WJ k j (KG pre) (KG tp) M pre) (hb2:WJ k j (KG pre) (KG tp) M2 Qf)
   (Gh:TE k j (KG pre) (KG tp) args WV)
   (hr:RnR k j (KG pre) (KG tp) r r')
   (aHZ:∀e∈pre,Rch WV pre e.1):Cd.ok P G (.EM f WV r' pre tp Qf tu):=by
 intro s hgb hgf;have hpl:pre.length=k:=by rw[<- hb.len,hk]
 have htl:tp.length=j:=by rw[<- hj,<- htp,List.length_map]
 have hul:Qf.length=k:=by
   have:=congrArg List.length hku;simp only[keys,List.length_map] at this;omega
 have aLE:tu.length=j:=by rw[<- hj2,<- htu,List.length_map]
 refine atV hG h (by have:=lH (M:=M) (n:=0) (acc:=[]) trivial;rw[Nat.zero_add,hk] at this;exact this) (KG pre) (KG tp) (λi i' hi OU e=>Zq O5 (by omega) (by omega) e) (λi i' hi OU e=>Zq O6 (by omega) (by omega) e) Gh (s:=s) (λi b hi hl=>?_) (λcx w vs hs ha i hi=>?_) (λq n hq hl=>?_) (λq hq=>?_) (λq n hl=>?_) hr ?_;rcases mU (acc:=[]) trivial hl with ⟨_,h1⟩ | h1
 rw[Nat.sub_zero] at h1;obtain⟨e,he,hn⟩:=hb.get h1;exact⟨e.2,by rw[KH he];exact Xk hgb he,hn⟩;cases h1;have he:pre[i]?=some pre[i]:=List.getElem?_eq_getElem (by omega);rw[KH he];exact(aHZ _ (List.mem_of_getElem? he)).CN hgb hs ha
 · obtain⟨_,h1⟩:=UZ hl
   rw[Nat.sub_zero,<- htp,List.getElem?_map] at h1;cases he:tp[q]? with
   | none=>rw[he] at h1;cases h1
   | some e =>
     rw[he] at h1;simp at h1;rw[KH he,<- h1];exact fJ hgf he
 exact ZN (Nat.zero_le _) (by omega);obtain⟨_,h1⟩:=UZ hl;have:=(List.getElem?_eq_some_iff.1 h1).1;omega
 · obtain⟨a1,a2,a3,a4⟩:=ZR Qf s
   obtain⟨b1,b2,b3⟩:=Xl tu (s.Vd Qf);refine⟨by rw[b1,a1],by rw[b2,a2],λn hd=>by rw[b3];exact a4 n hd,λid b hg=>?_,λq n hq=>?_⟩
   · have hg:(s.Vd Qf).get id=some b:=by
       unfold AS.get at hg ⊢;rw[b3] at hg;exact hg
     rcases jE Qf s id b hg with ⟨e,he,rfl,rfl⟩ | ⟨h1,h2⟩
     · obtain⟨i,hi⟩:=List.mem_iff_getElem?.1 he
       have hil:=(List.getElem?_eq_some_iff.1 hi).1;obtain⟨b0,hb0,hn⟩:=hb2.aGY hi;refine .inl ⟨i,b0,by omega,by rw[<- PR hku,KH hi],?_,hn⟩
       have:∀(M:List AL) (n:Nat) (acc:List (Nat×AL)) (i:Nat) (b:AL),M[i]?=some b->(∀e∈acc,e.1 < n)->look (n+i) (Iu M n acc)=some b:=by
         intro M
         induction M with
         | nil=>intro n acc i b h;simp at h
         | cons x M ih =>
           intro n acc i b h fO;cases i with
           | succ i =>
             have:=ih (n+1) ((n,x)::acc) i b (by simpa using h) (λe he=>by
               rcases List.mem_cons.1 he with rfl | he
               exact Nat.lt_succ_self _;have:=fO e he;omega)
             rw[show n+(i+1)=n+1+i by omega];exact this
           | zero =>
             simp at h;subst h;simp only[Iu,Nat.add_zero]
             have aAO:∀(M:List AL) (n':Nat) (acc:List (Nat×AL)),n < n'->look n (Iu M n' acc)=look n acc:=by
               intro M
               induction M with
               | nil=>intro n' acc _;rfl
               | cons y M uS =>
                 intro n' acc hlt;simp only[Iu];rw[uS (n'+1) _ (by omega)];simp only[look]
                 have:Nat.beq n' n=false:=by
                   cases hq:Nat.beq n' n with
                   | false=>rfl
                   | true=>have:=beq_true hq;omega
                 rw[this]
             rw[aAO M (n+1) _ (by omega)];simp only[look];rw[show Nat.beq n n=true from Nat.beq_refl n]
       have:=this M2 0 [] i b0 hb0 (λe he=>by cases he);rwa[Nat.zero_add] at this
     refine .inr ⟨λi hi e=>?_,h2⟩;have he:Qf[i]?=some Qf[i]:=List.getElem?_eq_getElem (by omega);refine h1 _ (List.mem_of_getElem? he) ?_;rw[e,<- PR hku,KH he]
   rcases Zi tu _ q n hq with ⟨e,he,rfl,rfl⟩ | ⟨h1,h2⟩
   obtain⟨i,hi⟩:=List.mem_iff_getElem?.1 he;have hil:=(List.getElem?_eq_some_iff.1 hi).1;refine .inl ⟨i,by omega,by rw[<- PR hkt,KH hi],?_⟩;obtain⟨kk,hkk⟩:=ZN (T:=T2) (n:=0) (r:=i) (Nat.zero_le _) (by omega);obtain⟨_,h3⟩:=UZ hkk;rw[Nat.sub_zero,<- htu,List.getElem?_map,hi] at h3;simp at h3;rw[hkk,h3];refine .inr ⟨λi hi e=>?_,by rw[<- a3];exact h2⟩;have he:tu[i]?=some tu[i]:=List.getElem?_eq_getElem (by omega);refine h1 _ (List.mem_of_getElem? he) ?_;rw[e,<- PR hkt,KH he]
end AI
namespace AI
open Go Go.RowKit
section
variable {P:Program} {G:A6}
def QM(G:A6)(s0:AS)(r0:CR)(s2:AS):CR->AS->Prop:=λr s'=>match r0 with
 | .ret v=>∃a,r=.ret a/\sZ G s0 [a] s' [v] s2
 | .pan v=>∃a,r=.pan a/\sZ G s0 [a] s' [v] s2
def BW(hm:P.follows .mixedOrders=true){f:FuncId}{args:List AV}{s0 s2:AS}{r0:CR}(h:WC P G (XS P G) H0 f args s0 (QM G s0 r0 s2)):Sound P G (.call f args s0 r0 s2):=by
 obtain⟨r,s',hj,hq⟩:=h;have hS:=sound (Q9 hm) hj;intro cx w vs hs Gh;refine(hS cx w vs hs Gh).mono ?_;rintro e w' ⟨c',hx,hs',fQ⟩;cases r0 with
 | ret v =>
   obtain⟨a,rfl,hf⟩:=hq;obtain⟨u,rfl,hu⟩:=fQ;obtain⟨c2,x2,Ty,f2⟩:=hf cx w c' w' [u] hx hs hs' (.cons hu .nil);cases f2 with
   | cons f3 _=>exact⟨c2,x2,Ty,u,rfl,f3⟩
 | pan v =>
   obtain⟨a,rfl,hf⟩:=hq;obtain⟨u,rfl,hu⟩:=fQ;obtain⟨c2,x2,Ty,f2⟩:=hf cx w c' w' [u] hx hs hs' (.cons hu .nil);cases f2 with
   | cons f3 _=>exact⟨c2,x2,Ty,u,rfl,f3⟩
def PG(P:Program)(G:A6)(fn:Func)(m:Nat)(s0:AS)(Q:AX->List AV->AS->Prop)(v:AV)(s2:AS):Prop:=∀a s',sZ G s0 [a] s' [v] s2->QP P fn m Q a s'
def SE(G:A6)(m:Nat)(s0:AS)(Q:AX->List AV->AS->Prop)(v:AV)(s2:AS):Prop:=∀a s',sZ G s0 [a] s' [v] s2->TD m Q a s'
def PG.body{fn:Func}{m:Nat}{s0 s2:AS}{v:AV}:PG P G fn m s0 (Sg P fn m (QM G s0 (.ret v) s2)) v s2:=λa s' hf=>.body ⟨a,rfl,hf⟩
def SE.body{fn:Func}{m:Nat}{s0 s2:AS}{v:AV}:SE G m s0 (Sg P fn m (QM G s0 (.pan v) s2)) v s2:=λa s' hf=>.body ⟨a,rfl,hf⟩
def PG.outer{fn:Func}{m id:Nat}{ks:List KI}{s0 s2:AS}{Q:AX->List AV->AS->Prop}{v:AV}(h:PG P G fn m s0 Q v s2):PG P G fn m s0 (Ew id (D3 P G ks Q)) v s2:=λa s' hf=>(h a s' hf).outer
def PG.GB{fn:Func}{m:Nat}{L:Code}{s0 s1 s2:AS}{Q:AX->List AV->AS->Prop}{v:AV}(h:PG P G fn m s0 Q v s2):PG P G fn m s0 (Tc P G L s1 Q) v s2:=h
def SE.outer{m id:Nat}{ks:List KI}{s0 s2:AS}{Q:AX->List AV->AS->Prop}{v:AV}(h:SE G m s0 Q v s2):SE G m s0 (Ew id (D3 P G ks Q)) v s2:=λa s' hf=>(h a s' hf).outer
def SE.GB{m:Nat}{L:Code}{s0 s1 s2:AS}{Q:AX->List AV->AS->Prop}{v:AV}(h:SE G m s0 Q v s2):SE G m s0 (Tc P G L s1 Q) v s2:=h
def Af{f:FuncId}{args:List AV}{v:AV}{pre:List (Nat×AL)}{tp:List (Nat×Nat)}{Qf:List (Nat×AL)}{tu:List (Nat×Nat)}(h:Cd.ok P G (.EM f args (.ret v) pre tp Qf tu)):PC P G :=
 ⟨.u v pre tp Qf tu,[.EM f args (.ret v) pre tp Qf tu,.oZ (NP pre) (NP pre) (Om tp) (Om tp)],⟨h,⟨rfl,rfl⟩,trivial⟩⟩
def amG{f:FuncId}{args Vn:List AV}{v:AV}{pre:List (Nat×AL)}{tp:List (Nat×Nat)}{Qf:List (Nat×AL)}{tu:List (Nat×Nat)}(w:Wn args Vn)(h:Cd.ok P G (.EM f Vn (.ret v) pre tp Qf tu)):PC P G :=
 ⟨.u v pre tp Qf tu,[.EM f args (.ret v) pre tp Qf tu,.oZ (NP pre) (NP pre) (Om tp) (Om tp)],⟨λs h1 h2 cx wd vs hs ha=>h s h1 h2 cx wd vs hs (w.ok ha),⟨rfl,rfl⟩,trivial⟩⟩
def An{f:FuncId}{args:List AV}{v:AV}{pre:List (Nat×AL)}{tp:List (Nat×Nat)}{Qf:List (Nat×AL)}{tu:List (Nat×Nat)}(h:Cd.ok P G (.EM f args (.pan v) pre tp Qf tu)):PC P G :=
 ⟨.q v pre tp Qf tu,[.EM f args (.pan v) pre tp Qf tu,.oZ (NP pre) (NP pre) (Om tp) (Om tp)],⟨h,⟨rfl,rfl⟩,trivial⟩⟩
def kR:PC P G:=⟨.za,[],trivial⟩
end
end AI
namespace AI
open Go Go.RowKit
mutual
def Yk{n m n2 m2:Nat}(h1:n<=n2)(h2:m<=m2):∀{a:AV},under n m a=true->under n2 m2 a=true
 | .sc _,_=>rfl
 | .agg cs,h=>by simp only[under] at h ⊢;exact Jp h1 h2 h
 | .Df cs,h=>by simp only[under] at h ⊢;exact Jp h1 h2 h
 | .sl o k cs,h=>by
   simp only[under,Bool.and_eq_true] at h ⊢;refine⟨?_,Jp h1 h2 h.2⟩;have h3:=h.1;cases o with
   | row r z=>simp only[decide_eq_true_eq] at h3 ⊢;omega
   | _=>rfl
 | .msl id _ _,h=>by simp only[under,decide_eq_true_eq] at h ⊢;omega
 | .el cs,h=>by simp only[under] at h ⊢;exact Jp h1 h2 h
 | .ptr id _,h=>by simp only[under,decide_eq_true_eq] at h ⊢;omega
 | .fn _ a b,h=>by simp only[under,Bool.and_eq_true] at h ⊢;exact⟨Jp h1 h2 h.1,Jp h1 h2 h.2⟩
 | .ifc _ v,h=>by simp only[under] at h ⊢;exact Yk h1 h2 h
 | .mp id,h=>by simp only[under,decide_eq_true_eq] at h ⊢;omega
 | .any,_=>rfl
 | .raw _ _ _,_=>rfl
def Jp{n m n2 m2:Nat}(h1:n<=n2)(h2:m<=m2):∀{a:List AV},Fh n m a=true->Fh n2 m2 a=true
 | [],_=>rfl
 | a::l,h=>by simp only[Fh,Bool.and_eq_true] at h ⊢;exact⟨Yk h1 h2 h.1,Jp h1 h2 h.2⟩
end
def Wn.z{l m:List AV}(t:Wn l m):Wn (.sl .full 0 []::l) (.sl .lost 0 []::m):=.s rfl t
def rS{P:Program}{G:A6}{r:HR}{X:Prop}{x:Value}{fn:Func}{m:Nat}{l:List (PC P G)}(R:TF P G l (Sg P fn m (λr _=>∃a,r=.ret a/\Fits 0 0 a (.sc x))) r X)(h:amS P fn r=some (dO l,.sc x)):X:=Bc fn m R h .body .sc
abbrev JJ:=List Value×List AV
def awH:List Value->Nat->Value
 | [],_=>undef
 | v::_,0=>v
 | _::l,k+1=>awH l k
def aBF:List AV->Nat->AV
 | [],_=>.sc undef
 | v::_,0=>v
 | _::l,k+1=>aBF l k
def jn(j:JJ)(k:Nat):Value:=awH j.1 k
def gn(j:JJ)(k:Nat):AV:=aBF j.2 k
def frm:Nat->Nat->List (Nat×AV)->List Nat->Nat->List Nat->Nat->JJ->List AV
 | 0,_,_,_,_,_,_,_=>[]
 | n+1,p,l,bs,kb,gs,kg,j=>(match hd1 p l with
   | some v=>v::frm n (p+1) (l.drop 1) bs kb gs kg j
   | none=>(match hd2 p bs with
     | true=>.sc (jn j kb)::frm n (p+1) l (bs.drop 1) (kb+1) gs kg j
     | false=>(match hd2 p gs with
       | true=>gn j kg::frm n (p+1) l bs kb (gs.drop 1) (kg+1) j
       | false=>.any::frm n (p+1) l bs kb gs kg j)))
where
 hd1 (p:Nat):List (Nat×AV)->Option AV
   | []=>none
   | e::_=>(match Nat.beq e.1 p with | true=>some e.2 | false=>none)
 hd2 (p:Nat):List Nat->Bool
   | []=>false
   | e::_=>Nat.beq e p
structure Mm(κ ν:Type) where
 es:List (κ×ν×Nat)
 cl:Nat
section
variable {κ ν:Type} [DecidableEq κ]
def K7(k:κ):List (κ×ν×Nat)->Nat->Option (Nat×ν)
 | [],_=>none
 | e::es,i=>if e.1=k then some (i,e.2.1) else K7 k es (i+1)
def Mm.get(m:Mm κ ν)(k:κ):Option ν:=(K7 k m.es 0).map (·.2)
def Mm.set(m:Mm κ ν)(k:κ)(v:ν):Mm κ ν:=match K7 k m.es 0 with
 | some (j,_)=>(match m.es[j]? with | some e=>⟨m.es.set j (k,v,e.2.2),m.cl⟩ | none=>m)
 | none=>⟨m.es++[(k,v,m.cl)],m.cl+1⟩
def Mm.nil:Mm κ ν:=⟨[],0⟩
def vC(k k2:κ)(v:ν)(b:Nat):∀(es:List (κ×ν×Nat)) (i:Nat),K7 k (es++[(k2,v,b)]) i=match K7 k es i with
   | some r=>some r
   | none=>if k2=k then some (i+es.length,v) else none:=by
 intro es
 induction es with
 | nil=>intro i;simp[K7]
 | cons e es ih =>
   intro i;simp only[List.cons_append,K7];by_cases he:e.1=k;simp[he];rw[if_neg he,if_neg he,ih (i+1)];cases K7 k es (i+1) with
   | some r=>rfl
   | none=>simp only[List.length_cons];rw[show i+1+es.length=i+(es.length+1) by omega]
def gM{k:κ}:∀{es:List (κ×ν×Nat)} {i j:Nat} {v:ν},K7 k es i=some (j,v)->∃m e,j=i+m/\es[m]?=some e/\e.1=k/\e.2.1=v:=by
 intro es
 induction es with
 | nil=>intro i j v h;cases h
 | cons e es ih =>
   intro i j v h;simp only[K7] at h;split at h;rename_i he;cases h;exact⟨0,e,rfl,rfl,he,rfl⟩;obtain⟨m,e',h1,h2,h3⟩:=ih h;exact⟨m+1,e',by omega,by simpa using h2,h3⟩
def vD{k:κ}{v:ν}:∀{es:List (κ×ν×Nat)} {i m b:Nat} {v0:ν},K7 k es i=some (i+m,v0)->∀k',K7 k' (es.set m (k,v,b)) i=if k'=k then some (i+m,v) else K7 k' es i:=by
 intro es
 induction es with
 | nil=>intro i m b v0 h;cases h
 | cons e es ih =>
   intro i m b v0 h k';simp only[K7] at h;split at h;rename_i he;have hm:m=0:=by have h5:=congrArg (λo:Option (Nat×ν)=>o.map (·.1)) h;simp at h5;omega
   subst hm;simp only[List.set_cons_zero,K7,he];by_cases hk:k'=k;simp[hk];have hk2:¬k=k':=λe=>hk e.symm;simp[hk,hk2]
   · rename_i he
     obtain⟨m',_,hm,_⟩:=gM h;cases m with
     | zero=>omega
     | succ m =>
       simp only[List.set_cons_succ,K7];have:=ih (i:=i+1) (m:=m) (b:=b) (by rw[show i+1+m=i+(m+1) by omega];exact h) k';by_cases hk:e.1=k';rw[if_pos hk,if_pos hk];have:¬k'=k:=λe'=>he (hk.trans e');simp[this];rw[if_neg hk,if_neg hk,this,show i+1+m=i+(m+1) by omega]
def Mm.We(m:Mm κ ν)(k:κ)(v:ν)(k':κ):(m.set k v).get k'=if k'=k then some v else m.get k':=by
 unfold Mm.get Mm.set;cases hf:K7 k m.es 0 with
 | none =>
   simp only;rw[vC];by_cases hk:k'=k;subst hk;rw[hf];simp
   · cases fR:K7 k' m.es 0 with
     | some r=>simp[hk]
     | none =>
       have hk2:¬k=k':=λe=>hk e.symm;simp[hk,hk2]
 | some r =>
   obtain⟨j,v0⟩:=r;obtain⟨q,e,h1,h2,h3,_⟩:=gM hf;have hj:j=q:=by omega
   subst hj;simp only[h2];rw[vD (i:=0) (m:=j) (v0:=v0) (by rw[Nat.zero_add];exact hf)];by_cases hk:k'=k<;>simp[hk]
end
structure aKP{κ:Type}[DecidableEq κ](d:TypeDesc)(kv:κ->Value):Prop where
 pk:plainKey d=true
 same:∀a b:κ,X4 d (kv a) (kv b)=some (decide (b=a))
end AI
namespace AI
open Go Go.RowKit
section
variable {P:Program} {G:A6} {α:Type} {f:α->List AV} {C:List α->List AV} {k:Nat}
def Ou.ixm(_:Ou f C k){t elem:TypeId}(hu:P.underlying t=some (.slice elem))(hs:(P.info? elem).map (·.size)=some k){id n i:Nat}(h:i < n):C7 P t (.msl id 0 n) (.sc (.int .i64 ((i:Nat):Int)))=some (.ptr id (0+i*k)):=by
 cases hi:P.info? elem with
 | none=>rw[hi] at hs;cases hs
 | some e =>
   rw[hi] at hs;have hk:e.size=k:=by simpa using hs
   have hn:QC (.sc (.int .i64 ((i:Nat):Int)))=some i:=by unfold QC;simp
   unfold C7;rw[hu,hn];simp only[hi];rw[if_pos h,hk]
def ZJ{l:List α}{i:Nat}(y:α)(h:i < l.length):l.set i y=l.take i++y::l.drop (i+1):=by
 rw[List.set_eq_take_append_cons_drop,if_pos h]
def Ou.st(h:Ou f C k){e:TypeId}(hs:(P.info? e).map (·.size)=some k){l:List α}{i:Nat}{x:α}(hx:l[i]?=some x)(y:α){v:AV}(hv:cellsOf v=f y)(h1:(f y).all one=true):Cd.ok P G (.stB (.cells (C l)) e (0+i*k) v (.cells (C (l.set i y)))):=by
 intro s id hg;have hlt:=(List.getElem?_eq_some_iff.1 hx).1;have hle:i*k+k<=l.length*k:=by have:=Nat.mul_le_mul_right k hlt;rw[Nat.succ_mul] at this;exact this
 cases hi:P.info? e with
 | none=>rw[hi] at hs;cases hs
 | some j =>
   rw[hi] at hs;have hk:j.size=k:=by simpa using hs
   unfold J9;rw[hi];simp only[hg];rw[hv,hk,h.eq,Nat.zero_add,if_pos ⟨h.len y,h1,by rw[Iy h.len];exact hle⟩,h.eq];congr 3;unfold HY;rw[h.len y,VJ h.len,show i*k+k=(i+1)*k by rw[Nat.succ_mul],VI h.len,ZJ y hlt,Og,Gc,List.append_assoc]
end
end AI
namespace AI
open Go Go.RowKit
section
variable {P:Program} {G:A6}
def xT{f:FuncId}{fn:Func}{c:Code}{args:List AV}{s s0 s2:AS}{m:Nat}{v:AV}(hf:P.funcs[f]?=some fn)(hb:fn.body=some c)(h:W P G (XS P G) H0 c (args++List.replicate (fn.ntmps - args.length) (.sc undef)) s (Sg P fn m (QM G s0 (.ret v) s2))):WC P G (XS P G) H0 f args s (λr s'=>QM G s0 (.ret v) s2 r (s'.cut m)):=by
 obtain⟨e,UL,s1,h1,h2⟩:=h;cases e with
 | normal=>obtain⟨v,h3,h4⟩:=h2;exact⟨_,_,.body hf hb h1 (.inl rfl) h3 (.inr rfl),h4⟩
 | ret=>obtain⟨v,h3,h4⟩:=h2;exact⟨_,_,.body hf hb h1 (.inr rfl) h3 (.inr rfl),h4⟩
 | pan v=>obtain⟨a,ha,_⟩:=h2;cases ha
 | exit id=>exact h2.elim
def axK(hm:P.follows .mixedOrders=true){f:FuncId}{args:List AV}{s0 s2:AS}{v:AV}{m:Nat}(h:WC P G (XS P G) H0 f args s0 (λr s'=>QM G s0 (.ret v) s2 r (s'.cut m))):Sound P G (.call f args s0 (.ret v) s2):=by
 obtain⟨r,s',hj,a,rfl,hf⟩:=h;have hS:=sound (Q9 hm) hj;intro cx w vs hs Gh;refine(hS cx w vs hs Gh).mono ?_;rintro e w' ⟨c',hx,hs',u,rfl,hu⟩;obtain⟨c2,x2,Ty,f2⟩:=hf cx w c' w' [u] hx hs (hs'.cut m) (.cons hu .nil);cases f2 with
 | cons f3 _=>exact⟨c2,x2,Ty,u,rfl,f3⟩
def ajW(hG:∀g cs,G g=some cs->BA cs=true){s s' s2:AS}{fr' fr2:List AV}(hn:s.nx<=s2.nx)(hr:s.nr<=s2.nr)(hn2:s2.nx<=s'.nx)(hr2:s2.nr<=s'.nr)
   (hd:I2 s2.h s2.nx) (auH:∀id b,look id s2.h=some b->∃b',look id s'.h=some b'/\Qk s2.nx s2.nr b' b) (hF:∀r n,DW r s2.F=some n->DW r s'.F=some n/\r < s2.nr)
   (hf:I3 s2.nx s2.nr fr' fr2):sZ G s fr' s' fr2 s2:=by
 intro cx w c' w' vs hx hs hs' hfr;have hl1:=hs.len;have hl2:=hs'.len;have hl3:=hs.Ip;have hl4:=hs'.Ip
 have Ra:cx.CN <+: c'.CN.take s2.nx:=by
   obtain⟨t,ht⟩:=hx.CN;rw[<- ht,List.take_append,List.take_of_length_le (by omega)];exact List.prefix_append _ _
 have hrl:(c'.rows.take s2.nr).length=s2.nr:=by rw[List.length_take];omega
 refine⟨c'.upto s2.nx s2.nr,⟨Ra,?_,λr x Wg h=>hx.rows r x Wg (EF h).1,λg i v hv=>Ut (hx.Y2 g i v hv),hx.below,hx.base,hx.bad,λg hg=>hx.YU g (List.mem_of_mem_take hg),λr g n cap sz h=>hx.YV r g n cap sz (EF h).1,hx.GF⟩,?_,hf _ _ _ hfr⟩;show cx.rows.length<=(c'.rows.take s2.nr).length;omega;refine⟨?_,hd,λi j g h1 h2=>hs'.nodup i j g (EF h1).1 (EF h2).1,λg hg=>hs'.low g (List.mem_of_mem_take hg),λid g b h1 h2=>?_,hrl.symm,λr g n cap sz h=>?_,λr n h=>?_,λg hg=>hs'.L0 g (List.mem_of_mem_take hg),hs'.L8,λr r' g n cap sz n' cap' MP h h'=>hs'.Ig r r' g n cap sz n' cap' MP (EF h).1 (EF h').1,λg cs hg=>(hs'.Ma g cs hg).upto (Ci _ _ (hG g cs hg)),hs'.PB⟩;show s2.nx=(c'.CN.take s2.nx).length;rw[List.length_take];omega;obtain⟨b',h3,h4⟩:=auH id b h2;obtain⟨o,ho,hb⟩:=hs'.box id g b' (EF h1).1 h3;exact⟨o,ho,h4 _ _ _ hb⟩;obtain⟨a1,a2,a3,a4⟩:=hs'.row r g n cap sz (EF h).1;exact⟨a1,a2,λhm=>a3 (List.mem_of_mem_take hm),a4⟩;obtain⟨h1,h2⟩:=hF r n h;rcases hs'.Ix r n h1 with ⟨h3,h4⟩ | ⟨g,cap,sz,h3⟩
 exact .inl ⟨Qe h3 h2,h4⟩;exact .inr ⟨g,cap,sz,Qe h3 h2⟩
def amT(hG:∀g cs,G g=some cs->BA cs=true){live:List Nat}{n m:Nat}{s0:AS}{fr':List AV}{s':AS}{fps:List (FP n m)}{fbs:List (FB n m)}{fr2:List AV}{s2:AS}(hn:s0.nx<=n)(hr:s0.nr<=m)(hn2:n<=s'.nx)(hr2:m<=s'.nr)(h:axB live n m fr' s' (YC fps) (fbB fbs)=some (fr2,s2,dH fps,fbA fbs)):sZ G s0 fr' s' fr2 s2:=by
 unfold axB at h;split at h;rename_i f1 as hm;split at h;rename_i h1 cas hb;simp only[Option.some.injEq,Prod.mk.injEq] at h;obtain⟨rfl,rfl,rfl,rfl⟩:=h;intro cx w c' w' vs hx hs hs' hfr;obtain⟨hd,hl⟩:=aiZ hb;refine ajW (s:=s0) (s2:=⟨h1,n,Vp m s'.F,m⟩) hG hn hr hn2 hr2 (hd _ (eY hs'.desc)) (λid b hb=>?_) (λr n hr=>fE hr) (alN hm) cx w c' w' vs hx hs hs' hfr;obtain⟨b',h3,h4⟩:=hl id b hb;exact⟨b',SL hs'.desc h3,h4⟩;cases h;cases h
def azX(n:Nat):List Nat->Bool
 | []=>false
 | k::l=>Nat.beq n k||azX n l
def XV(ks:List Nat):List (Nat×AL)->List (Nat×AL)
 | []=>[]
 | e::l=>match azX e.1 ks with
   | true=>e::XV ks l
   | false=>XV ks l
def S5{ks:List Nat}:∀{l:List (Nat×AL)} {n:Nat},I2 l n->I2 (XV ks l) n
 | [],_,_=>trivial
 | e::l,n,h=>by
   simp only[XV];split;exact⟨h.1,S5 h.2⟩;exact(S5 h.2).mono (Nat.le_of_lt h.1)
def S6{ks:List Nat}{id:Nat}{b:AL}:∀{l:List (Nat×AL)} {n:Nat},I2 l n->look id (XV ks l)=some b->look id l=some b
 | [],_,_,h=>h
 | e::l,n,hd,h=>by
   simp only[XV] at h;split at h;simp only[look] at h ⊢;split at h;exact h;exact S6 hd.2 h;have h1:=S6 hd.2 h;have h2:=Wj hd.2 h1;simp only[look];split;rename_i hb;have:=beq_true hb;omega;exact h1
def AS.pick(s:AS)(ks:List Nat):AS:=⟨XV ks s.h,s.nx,s.F,s.nr⟩
def St.pick{c:Cx}{w:World}{s:AS}(h:St G c w s)(ks:List Nat):St G c w (s.pick ks) :=
 ⟨h.len,S5 h.desc,h.nodup,h.low,λid g b h1 h2=>h.box id g b h1 (S6 h.desc h2),h.Ip,h.row,h.Ix,h.L0,h.L8,h.Ig,h.Ma,h.PB⟩
def arV(ks:List Nat)(live:List Nat)(n m0:Nat)(P:Program)(fn:Func)(m:Nat)(bs:List AV)(cs:List AL):HR->Option (List Cd×List AV×AS×List AV×List AL)
 | some (.fin .ret,[],cd,fr,s)=>(match Gg P s fn fr with
   | some v=>(match Nat.ble n s.nx&&Nat.ble m0 s.nr with
     | true=>(match axB live n m0 [v] ((s.cut m).pick ks) bs cs with
       | some (fr2,s2,as,cas)=>some (cd,fr2,s2,as,cas)
       | none=>none)
     | false=>none)
   | none=>none)
 | _=>none
def ajZ(hG:∀g cs,G g=some cs->BA cs=true){r:HR}{X:Prop}{s0:AS}{Q:AX->List AV->AS->Prop}(fn:Func)(m:Nat){l:List (PC P G)}(ks:List Nat)(live:List Nat){n m0:Nat}(fps:List (FP n m0))(fbs:List (FB n m0))(v:AV)(s2:AS)(R:TF P G l Q r X)(hn:s0.nx<=n)(hr:s0.nr<=m0)
   (h:arV ks live n m0 P fn m (YC fps) (fbB fbs) r=some (dO l,[v],s2,dH fps,fbA fbs)) (k:PG P G fn m s0 Q v s2):X:=by
 unfold arV at h;split at h;split at h;rename_i v' hv;split at h;rename_i hle;simp only[Bool.and_eq_true] at hle;split at h;rename_i h1;simp only[Option.some.injEq,Prod.mk.injEq] at h;obtain⟨rfl,rfl,rfl,rfl,rfl⟩:=h;exact R _ _ _ _ rfl (Np l) (k _ _ (λcx w c' w' vs hx hs hs' hf=>amT (s':=(AS.cut _ m).pick ks) hG hn hr (Nat.le_of_ble_eq_true hle.1) (Nat.le_of_ble_eq_true hle.2) h1 cx w c' w' vs hx hs (hs'.pick ks) hf) _ _ hv rfl);cases h;cases h;cases h;cases h
inductive RnH(dn dr nx nr:Nat):List (Nat×AL)->List (Nat×AL)->Prop where
 | nil:RnH dn dr nx nr [] []
 | cons {i:Nat} {b b':AL} {l m:List (Nat×AL)} (h:tA dn dr (λi=>nx+i) (λr=>nr+r) b b') (t:RnH dn dr nx nr l m):RnH dn dr nx nr ((i,b)::l) ((nx+i,b')::m)
def RnH.desc{dn dr nx nr:Nat}{l m h:List (Nat×AL)}(hr:RnH dn dr nx nr l m)(hh:I2 h nx):∀{n:Nat},I2 l n->I2 (m++h) (nx+n):=by
 induction hr with
 | nil=>intro n _;exact hh.mono (Nat.le_add_right _ _)
 | cons h1 t ih=>intro n hd;exact⟨Nat.add_lt_add_left hd.1 _,ih hd.2⟩
def RnH.look{dn dr nx nr id:Nat}{b:AL}{l m h:List (Nat×AL)}(hr:RnH dn dr nx nr l m)(hb:AI.look id (m++h)=some b):(∃i b0,id=nx+i/\AI.look i l=some b0/\tA dn dr (λi=>nx+i) (λr=>nr+r) b0 b)\/AI.look id h=some b:=by
 induction hr with
 | nil=>exact .inr hb
 | @cons i b0 b1 l m h1 t ih =>
   simp only[List.cons_append,AI.look] at hb;split at hb;rename_i he;cases hb;refine .inl ⟨i,b0,(beq_true he).symm,?_,h1⟩;simp only[AI.look];rw[Nat.beq_refl];rename_i he;have hne:=beq_false he;rcases ih hb with ⟨i',b',e,h2,h3⟩ | h2
   refine .inl ⟨i',b',e,?_,h3⟩;simp only[AI.look];split;rename_i h4;have:=beq_true h4;omega;exact h2;exact .inr h2
def uY{nr r n:Nat}{F:List (Nat×Nat)}:∀{F2:List (Nat×Nat)},DW r (F2.map (λp=>(nr+p.1,p.2))++F)=some n->(∃q,r=nr+q/\DW q F2=some n)\/DW r F=some n:=by
 intro F2
 induction F2 with
 | nil=>exact λh=>.inr h
 | cons x l ih =>
   intro h;simp only[List.map_cons,List.cons_append,DW] at h;split at h;rename_i he;cases h;refine .inl ⟨x.1,(beq_true he).symm,?_⟩;simp only[DW];rw[Nat.beq_refl];rename_i he;have hne:=beq_false he;rcases ih h with ⟨q,e,h2⟩ | h2
   refine .inl ⟨q,e,?_⟩;simp only[DW];split;rename_i h4;have:=beq_true h4;omega;exact h2;exact .inr h2
def atU(hG:∀g cs,G g=some cs->BA cs=true){f:FuncId}{args:List AV}{v v':AV}{h2 h3:List (Nat×AL)}{dn dr nx nr:Nat}{F2:List (Nat×Nat)}(h:Sound P G (.call f args ⟨[],0,[],0⟩ (.ret v) ⟨h2,dn,F2,dr⟩))(hp:BA args=true)
   (hv:Rn dn dr (λi=>nx+i) (λr=>nr+r) v v') (hb:RnH dn dr nx nr h2 h3):Cd.ok P G (.Y9 f args nx nr v' h3 dn (F2.map λp=>(nr+p.1,p.2)) dr):=by
 intro s hnx xF cx w vs hs ha;subst hnx xF;have hlp:=hs.len;have hlr:=hs.Ip
 have Ia:∀g i x,Lq cx w g i x->Lq ⟨w.heap.size,[],[],cx.YZ⟩ w g i x:=by
   intro g i x hx;refine⟨hx.1,λGi=>?_,hx.2.2⟩;rcases Gi with Gi | ⟨r,n,cap,sz,hr,_⟩ | Gi
   cases Gi;simp at hr;exact hx.2.1 Gi
 have FW:St G ⟨w.heap.size,[],[],cx.YZ⟩ w ⟨[],0,[],0⟩ :=
   ⟨rfl,trivial,(λi j g h1=>by simp at h1),(λg hg=>by cases hg),(λid g b h1=>by simp at h1),rfl,(λr g n cap sz hr=>by simp at hr),(λr n hr=>by cases hr),(λg hg=>by cases hg),(λg i hb=>hs.Tf hb),(λr r' g n cap sz n' cap' MP hr=>by simp at hr),(λg cs hg=>A9.plain Ia (hG g cs hg) (hs.Ma g cs hg)),Nat.le_refl _⟩
 refine(h _ w vs FW (Cz.plain Ia hp ha)).mono ?_;rintro e w' ⟨c',hx,hs',u,rfl,hu⟩;have NS:=hx.below;have SQ:QO w w' (λ_=>False):=⟨NS.os,NS.tape,NS.output,NS.size,λk hk _=>NS.block k hk⟩;have hpn:∀g,some g∈c'.CN->w.heap.size<=g:=λg hg=>(hx.YU g hg).resolve_left (by simp);have hrn:∀(r:Nat) g n cap sz,c'.rows[r]?=some (.QD g n cap sz)->w.heap.size<=g:=λr g n cap sz hg=>(hx.YV r g n cap sz hg).resolve_left (by rintro⟨_,_,_,_,hh⟩;simp at hh);have hl2:dn=c'.CN.length:=hs'.len;have hr2:dr=c'.rows.length:=hs'.Ip;let c1:Cx:=⟨cx.base,cx.CN++c'.CN,cx.rows++c'.rows,cx.bad⟩
 have hpu:∀(i:Nat) g,c'.CN[i]?=some (some g)->c1.CN[s.nx+i]?=some (some g):=λi g hg=>by
   show(cx.CN++c'.CN)[s.nx+i]?=_;rw[List.getElem?_append_right (by omega),show s.nx+i - cx.CN.length=i by omega];exact hg
 have hru:∀(r:Nat) x,c'.rows[r]?=some x->c1.rows[s.nr+r]?=some x:=λr x hg=>by
   show(cx.rows++c'.rows)[s.nr+r]?=_;rw[List.getElem?_append_right (by omega),show s.nr+r - cx.rows.length=r by omega];exact hg
 have hpc:∀(i:Nat) g,c1.CN[i]?=some (some g)->(i < s.nx/\cx.CN[i]?=some (some g))\/∃k,i=s.nx+k/\c'.CN[k]?=some (some g):=λi g hg=>by
   have hg:(cx.CN++c'.CN)[i]?=some (some g):=hg;by_cases hi:i < cx.CN.length;rw[List.getElem?_append_left hi] at hg;exact .inl ⟨by omega,hg⟩;rw[List.getElem?_append_right (by omega)] at hg;exact .inr ⟨i - cx.CN.length,by omega,hg⟩
 have hrc:∀(i:Nat) x,c1.rows[i]?=some x->(i < s.nr/\cx.rows[i]?=some x)\/∃k,i=s.nr+k/\c'.rows[k]?=some x:=λi x hg=>by
   have hg:(cx.rows++c'.rows)[i]?=some x:=hg;by_cases hi:i < cx.rows.length;rw[List.getElem?_append_left hi] at hg;exact .inl ⟨by omega,hg⟩;rw[List.getElem?_append_right (by omega)] at hg;exact .inr ⟨i - cx.rows.length,by omega,hg⟩
 have hmc:∀g,some g∈c1.CN->some g∈cx.CN\/some g∈c'.CN:=λg hg=>List.mem_append.1 hg;have Ks:∀g i,cx.YZ g i->c'.YZ g i:=λg i hh=>.inr (.inr (by rw[hx.bad];exact hh))
 have fW:∀g i x,Lq c' w' g i x->Lq c1 w' g i x:=by
   intro g i x fX;refine⟨fX.1,λGi=>fX.2.1 ?_,fX.2.2⟩;rcases Gi with Gi | ⟨q,n,cap,sz,hq,h1,h2⟩ | Gi
   rcases hmc g Gi with hm | hm
   exact Ks _ _ (.inl hm);exact .inl hm;rcases hrc q _ hq with ⟨_,h3⟩ | ⟨k,_,h3⟩
   exact Ks _ _ (.inr (.inl ⟨q,n,cap,sz,h3,h1,h2⟩));exact .inr (.inl ⟨k,n,cap,sz,h3,h1,h2⟩);exact Ks _ _ (.inr (.inr Gi))
 have ext:Ext cx w c1 w':=by
   refine⟨List.prefix_append _ _,by simp[c1],λq y hq hy=>?_,λg i x hv=>fW g i x (hx.Y2 g i x (Ia g i x hv)),SQ.below hs.PB (λ_ hf=>hf.elim),rfl,rfl,λg hg=>?_,λq g n cap sz hq=>?_,λq hq hp hr=>SQ.block q hq (λhf=>hf)⟩;rcases hrc q y hy with ⟨_,h3⟩ | ⟨k,h3,_⟩
   exact⟨y,h3,J8.refl y⟩;omega;rcases hmc g hg with hm | hm
   exact .inl hm;exact .inr (hpn g hm);rcases hrc q _ hq with ⟨_,h3⟩ | ⟨k,_,h3⟩
   exact .inl ⟨_,_,_,_,h3⟩;exact .inr (hrn _ _ _ _ _ h3)
 have hup:Up dn dr (λi=>s.nx+i) (λr=>s.nr+r) c' w' c1 w':=⟨fW,λi g _ hg=>hpu i g hg,λq hq=>by
   have hq:q < c'.rows.length:=by omega
   exact⟨_,hru q _ (List.getElem?_eq_getElem hq),List.getElem?_eq_getElem hq⟩⟩
 have st1:St G c1 w' ⟨h3++s.h,s.nx+dn,F2.map (λp=>(s.nr+p.1,p.2))++s.F,s.nr+dr⟩:=by
   refine⟨by simp only[c1,List.length_append];omega,hb.desc hs.desc hs'.desc,λi j g h1 h2=>?_,λg hg=>?_,λid g b h1 h2=>?_,by simp only[c1,List.length_append];omega,λq g n cap sz hq=>?_,λq n hq=>?_,λg hg=>?_,λg i hb=>Nat.lt_of_lt_of_le (hs.L8 g i hb) SQ.size,λq q' g n cap sz n' cap' MP h1 h2=>?_,λg cs Xs=>(hs.Ma g cs Xs).mono ext,Nat.le_trans hs.PB SQ.size⟩;rcases hpc i g h1 with ⟨_,a1⟩ | ⟨k,rfl,a1⟩<;>rcases hpc j g h2 with ⟨_,a2⟩ | ⟨k2,rfl,a2⟩
   exact hs.nodup _ _ _ a1 a2;have:=hs.Mg (List.mem_of_getElem? a1);have:=hpn g (List.mem_of_getElem? a2);omega;have:=hs.Mg (List.mem_of_getElem? a2);have:=hpn g (List.mem_of_getElem? a1);omega;rw[hs'.nodup _ _ _ a1 a2];rcases hmc g hg with hm | hm
   exact hs.low g hm;exact Nat.le_trans hs.PB (hpn g hm);rcases hb.look h2 with ⟨i,b0,rfl,h4,h5⟩ | h4
   rcases hpc _ g h1 with ⟨a0,_⟩ | ⟨k,a0,a1⟩
   omega;have:k=i:=by omega
   subst this;obtain⟨o,ho,uL⟩:=hs'.box k g b0 a1 h4;exact⟨o,ho,h5.up hup uL⟩;have hlt:=Wj hs.desc h4;rcases hpc _ g h1 with ⟨_,a1⟩ | ⟨k,a0,_⟩
   obtain⟨o,ho,uL⟩:=hs.box id g b a1 h4;refine⟨o,?_,uL.mono ext⟩;rw[SQ.block g (Array.getElem?_eq_some_iff.1 ho).1 (λhf=>hf)];exact ho;omega;rcases hrc q _ hq with ⟨_,h3⟩ | ⟨k,_,h3⟩
   obtain⟨a1,a2,a3,a4,vs',T,a5,a6⟩:=hs.row _ _ _ _ _ h3;refine⟨a1,a2,λhm=>?_,a4,vs',T,?_,a6⟩;rcases hmc g hm with hm | hm
   exact a3 hm;have:=hpn g hm;have:=hs.Mh h3;omega;rw[SQ.block g (Array.getElem?_eq_some_iff.1 a5).1 (λhf=>hf)];exact a5;obtain⟨a1,a2,a3,a4,a5⟩:=hs'.row _ _ _ _ _ h3;have hge:=hrn _ _ _ _ _ h3;refine⟨λi hb=>?_,Nat.le_trans hs.PB hge,λhm=>?_,a4,a5⟩;have:=hs.L8 _ _ hb;omega;rcases hmc g hm with hm | hm
   have:=hs.Mg hm;omega;exact a3 hm;rcases uY hq with ⟨k,rfl,h4⟩ | h4
   rcases hs'.Ix k n h4 with ⟨h5,h6⟩ | ⟨g,cap,sz,h5⟩
   exact .inl ⟨hru _ _ h5,h6⟩;exact .inr ⟨g,cap,sz,hru _ _ h5⟩
   have key:∀x,cx.rows[q]?=some x->c1.rows[q]?=some x:=λx hh=>by
     show(cx.rows++c'.rows)[q]?=_;rw[List.getElem?_append_left (List.getElem?_eq_some_iff.1 hh).1];exact hh
   rcases hs.Ix q n h4 with ⟨h5,h6⟩ | ⟨g,cap,sz,h5⟩
   exact .inl ⟨key _ h5,h6⟩;exact .inr ⟨g,cap,sz,key _ h5⟩;rcases hmc g hg with hm | hm
   exact Nat.lt_of_lt_of_le (hs.L0 g hm) SQ.size;exact hs'.L0 g hm;rcases hrc q _ h1 with ⟨_,a1⟩ | ⟨k,rfl,a1⟩<;>rcases hrc q' _ h2 with ⟨_,a2⟩ | ⟨k2,rfl,a2⟩
   exact hs.Ig _ _ _ _ _ _ _ _ _ a1 a2;have:=hs.Mh a1;have:=hrn _ _ _ _ _ a2;omega;have:=hs.Mh a2;have:=hrn _ _ _ _ _ a1;omega;rw[hs'.Ig _ _ _ _ _ _ _ _ _ a1 a2]
 exact⟨c1,ext,st1,u,rfl,hv.up hup hu⟩
def awP{f:FuncId}{args:List AV}{nx nr:Nat}{v:AV}{h:List (Nat×AL)}{dn:Nat}{F:List (Nat×Nat)}{dr:Nat}(h1:Cd.ok P G (.Y9 f args nx nr v h dn F dr)):PC P G :=
 ⟨.cn v h dn F dr,[.Y9 f args nx nr v h dn F dr],⟨h1,trivial⟩⟩
end
end AI
namespace AI
open Go Go.RowKit
section
variable {P:Program} {G:A6}
def Ou.kY{α:Type}{f:α->List AV}{C:List α->List AV}{k:Nat}(h:Ou f C k)(h1:∀x,(f x).all one=true)(m:List α):(C m).all one=true:=by
 rw[h.eq,List.all_eq_true];intro a ha;obtain⟨x,_,hx⟩:=List.mem_flatMap.1 ha;exact List.all_eq_true.1 (h1 x) a hx
def Ou.ga{α:Type}{f:α->List AV}{C:List α->List AV}{k:Nat}(h:Ou f C k){t tx e e2 yI:Nat}(hu:P.underlying t=some (.slice e))(hux:P.underlying tx=some (.slice e2))(hi:(P.info? e).map (λi=>(i.size,i.bytes,i.zero.map (·.cells.size)))=some (k,yI,some k))(hk:0 < k)(hb:yI<=10000)
   (own:Own) (l m:List α) {o:Own} (s:AS) (hm:m.length=0) (hlen:l.length+m.length<=100000000):Cd.ok P G (.Tx s t tx (.sl own l.length (C l)) (.sl o m.length (C m)) (.sl own l.length (C l)) s):=by
 have hm0:m=[]:=List.eq_nil_of_length_eq_zero hm;subst hm0;cases hq:P.info? e with
 | none=>rw[hq] at hi;cases hi
 | some i =>
   rw[hq] at hi;simp only[Option.map_some,Option.some.injEq,Prod.mk.injEq] at hi;obtain⟨h1,h2,h3⟩:=hi;cases hz:i.zero with
   | none=>rw[hz] at h3;cases h3
   | some z =>
     rw[hz] at h3;simp only[Option.map_some,Option.some.injEq] at h3;have hc:C []=[]:=by rw[h.eq];rfl
     have mC:(C l).length=l.length*k:=by rw[h.eq,Iy h.len]
     refine⟨.sl own l.length (C l),?_,λc w u hr=>hr⟩
     have hs:VR P s i.size tx (.sl o ([]:List α).length (C []))=some (0,[]):=by
       unfold VR;rw[hux,hc];simp
     unfold Ky;simp only[hu,hq,hz];rw[if_pos ⟨by rw[h3,h1],by omega⟩,hs];simp only[List.length_nil] at hlen ⊢
     have hbb:(l.length+0)*i.bytes<=140737488355328:=by
       rw[h2];exact Nat.le_trans (Nat.mul_le_mul hlen hb) (by decide)
     rw[if_pos ⟨by rw[mC,h1],rfl,hbb,by omega⟩,if_pos trivial]
def asY{t tx e:TypeId}{i:TypeInfo}{z:Value}{b:AV}{m:Nat}{ns:List AV}(ht:P.underlying t=some (.slice e))(hi:P.info? e=some i)(hz:i.zero=some z)(auR:∀s,VR P s i.size tx b=some (m,ns))(hm:m≠0)(ho:ns.all one=true)(hb:m*i.bytes<=140737488355328)(hl:m<=9223372036854775807)(s:AS):asL P G t tx (.sl .full 0 []) b s (.msl s.nx 0 m) (s.new (.cells ns)):=by
 intro c w va vb ty hs ha hbv;obtain⟨news,xF,hnl,hsi⟩:=aE hs (auR s) hbv
 have lZ:∃A,va=.slice A 0 0:=by
   cases ha with
   | @sl0 _ A cap h0=>have:cap=0:=h0;subst this;exact⟨A,rfl⟩
   | @Kx _ _ cap g o _ hn hc ho=>have:cap=0:=ho;subst this;exact⟨_,rfl⟩
 obtain⟨A,rfl⟩:=lZ
 have hold:(Builtin.firstCells i.size 0 (.slice A 0 0)).run P { w with drawn:=w.drawn+1 }=.ok ([]:List Value).toArray { w with drawn:=w.drawn+1 }:=by
   cases A with
   | none=>simp[Builtin.firstCells]
   | some a=>simp[Builtin.firstCells,loadCells,loadCellsFrom]
 obtain⟨cap',Xp,QI⟩:=P8 (ty:=ty) ht hi hz hsi hold (by omega) (by omega) (by rw[Nat.zero_add];exact hb);rw[Nat.zero_add] at Xp QI;obtain⟨x1,st1⟩:=hs.same (w':={ w with drawn:=w.drawn+1 }) ⟨rfl,rfl,rfl,Nat.le_refl _,λ_ _ _=>rfl⟩
 have hbk:EY c { w with drawn:=w.drawn+1 } (.cells ns) (.cells (news++(Builtin.zeroCells z.cells (cap' - m)).toList).toArray e (0,0)):=.G5 _ (xF.mono x1)
 obtain⟨x2,Ty⟩:=st1.new hbk
 have he:(([]++news).toArray++Builtin.zeroCells z.cells (cap' - m))=(news++(Builtin.zeroCells z.cells (cap' - m)).toList).toArray:=by
   apply Array.ext';simp
 rw[he] at QI;exact⟨_,_,_,QI,x1.trans x2,Ty,.msl Xp (by simp[hs.len])⟩
def pga{s:AS}{t tx:TypeId}{a b:AV}(h:Cd.ok P G (.Tx s t tx a b a s)):PC P G:=⟨.a a s,[.Tx s t tx a b a s],⟨h,trivial⟩⟩
def aJO{s:AS}{t tx:TypeId}{a b:AV}(h:Cd.ok P G (.Tx s t tx a b a s)):PC P G:=⟨.ae a,[.Tx s t tx a b a s],⟨h,trivial⟩⟩
end
end AI
namespace AI
open Go Go.RowKit
def aqI:Nat->Nat->List Nat->List Nat
 | 0,_,acc=>acc
 | k+1,n,acc=>match Nat.ble n 1 with
   | true=>acc
   | false=>aqI k (n / 2) (n % 2::acc)
def sb(c:Code)(n:Nat):Code:=sub c (aqI 200 n [])
def wk1(a:AV):AV->AV
 | .any=>lJ a
 | .sl .lost _ _=>(match a with
   | .sl _ n cs=>.sl .lost n cs
   | a=>a)
 | _=>a
def ayI{c:Cx}{w:World}{a b:AV}{v:Value}(hr:Rp c w a v):Rp c w (wk1 a b) v:=by
 unfold wk1;split;exact uB hr;split;cases hr with
 | sl0 _=>exact .sl0 trivial
 | Kx hn hc _=>exact .Kx hn hc trivial
 exact hr;exact hr
def wkF:List AV->List AV->List AV
 | a::l,b::k=>wk1 a b::wkF l k
 | l,_=>l
def Rt{c:Cx}{w:World}:∀{l k:List AV} {vs:List Value},Cz c w l vs->Cz c w (wkF l k) vs
 | [],k,_,h=>by cases k<;>exact h
 | a::l,[],_,h=>h
 | a::l,b::k,_,h=>by cases h with | cons h1 t=>exact .cons (ayI h1) (Rt t)
def nD(n:Nat):AV->Bool
 | .fn _ a b=>vG a&&vG b
 | a=>obv n a
where
 vG:List AV->Bool
   | []=>true
   | a::l=>obv n a&&vG l
def Wp{n m:Nat}:∀{l:List AV},nD.vG n l=true->Fh n m l=true
 | [],_=>rfl
 | a::l,h=>by
   simp only[nD.vG,Bool.and_eq_true] at h;simp only[Fh,Bool.and_eq_true];refine⟨?_,Wp h.2⟩;have h1:=h.1;cases a<;>simp only[obv] at h1<;>first | rfl | (cases h1;done) | exact decide_eq_true (Nat.le_of_ble_eq_true h1)
def alS{n m:Nat}{a:AV}(h:nD n a=true):Fits n m a a:=by
 cases a with
 | fn f a b =>
   simp only[nD,Bool.and_eq_true] at h;exact .under (by simp only[under,Bool.and_eq_true];exact⟨Wp h.1,Wp h.2⟩)
 | _=>exact adQ h
def mV(r:List AV->MR)(n:Nat)(a:AV)(bs:List AV):MR:=match nD n a with
 | true=>Zs a (r bs)
 | false=>none
def YR(n:Nat):List AV->List AV->List AV->MR
 | [],_,[]=>some ([],[])
 | [],_,_::_=>none
 | a::l,[],bs=>Zt (YR n l []) a bs
 | a::l,b::k,bs=>match Rb b with
   | true=>Zt (YR n l k) a bs
   | false=>(match nD n b with
     | true=>mV (YR n l k) n a bs
     | false=>alJ (YR n l k) a bs)
def uZ{n m:Nat}{r:List AV->MR}{l:List AV}(hr:∀(fps:List (FP n m)) l2,r (YC fps)=some (l2,dH fps)->I3 n m l l2){a:AV}{fps:List (FP n m)}{l2:List AV}(h:mV r n a (YC fps)=some (l2,dH fps)):I3 n m (a::l) l2:=by
 unfold mV at h;split at h;rename_i ho;unfold Zs at h;split at h;rename_i l3 as h1;cases h;exact .cons (alS ho) (hr fps _ h1);cases h;cases h
def alO{n m:Nat}:∀{l k:List AV} {fps:List (FP n m)} {l2:List AV},YR n l k (YC fps)=some (l2,dH fps)->I3 n m l l2:=by
 intro l
 induction l with
 | nil =>
   intro k fps l2 h;cases fps with
   | nil=>simp only[YC,YR] at h;cases h;exact .nil
   | cons p fps=>simp only[YC,YR] at h;cases h
 | cons a l ih =>
   intro k fps l2 h;cases k with
   | nil=>simp only[YR] at h;exact T4 (λfps l2 h=>ih h) h
   | cons b k =>
     simp only[YR] at h;split at h;exact T4 (λfps l2 h=>ih h) h;split at h;exact uZ (λfps l2 h=>ih h) h;exact qL (λfps l2 h=>ih h) h
abbrev FO(n m:Nat):=Option (FB n m)
def wZ{n m:Nat}:List (FO n m)->List (Option AL)
 | []=>[]
 | none::l=>none::wZ l
 | some p::l=>some p.a::wZ l
def lQ{n m:Nat}:List (FO n m)->List (Option AL)
 | []=>[]
 | none::l=>none::lQ l
 | some p::l=>some p.b::lQ l
def aJL(n:Nat):AL->Bool
 | .cells cs=>nD.vG n cs
 | _=>false
abbrev BO:=Option (List (Nat×AL)×List (Option AL))
def qW(id:Nat)(a:Option AL)(b:AL):BO->BO
 | some (l,as)=>some ((id,b)::l,a::as)
 | none=>none
def YI(n:Nat):List (Nat×AL)->List (Option AL)->BO
 | [],[]=>some ([],[])
 | e::l,none::bs=>(match aJL n e.2 with
   | true=>qW e.1 none e.2 (YI n l bs)
   | false=>none)
 | e::l,some b::bs=>qW e.1 (some e.2) b (YI n l bs)
 | _,_=>none
def ajA{n m:Nat}:∀{l:List (Nat×AL)} {fbs:List (FO n m)} {l2:List (Nat×AL)},YI n l (lQ fbs)=some (l2,wZ fbs)->(∀k,I2 l k->I2 l2 k)/\∀id b,look id l2=some b->∃b',look id l=some b'/\Qk n m b' b:=by
 intro l
 induction l with
 | nil =>
   intro fbs l2 h;cases fbs with
   | nil=>simp only[lQ,YI] at h;cases h;exact⟨λ_ _=>trivial,λid b h=>by cases h⟩
   | cons p fbs=>cases p<;>(simp only[lQ,YI] at h;cases h)
 | cons e l ih =>
   intro fbs l2 h
   have fin:∀{fbs:List (FO n m)} {l3:List (Nat×AL)} {b2:AL},YI n l (lQ fbs)=some (l3,wZ fbs)->Qk n m e.2 b2->(∀k,I2 (e::l) k->I2 ((e.1,b2)::l3) k)/\∀id b,look id ((e.1,b2)::l3)=some b->∃b',look id (e::l)=some b'/\Qk n m b' b:=by
     intro fbs l3 b2 h1 hf;obtain⟨hd,hl⟩:=ih h1;refine⟨λk hk=>⟨hk.1,hd _ hk.2⟩,λid b hb=>?_⟩;simp only[look] at hb ⊢;split at hb;cases hb;exact⟨e.2,rfl,hf⟩;exact hl id b hb
   cases fbs with
   | nil=>simp only[lQ,YI] at h;cases h
   | cons p fbs =>
     cases p with
     | none =>
       simp only[lQ,YI] at h;split at h;rename_i ho;unfold qW at h;split at h;rename_i l3 as h1;simp only[wZ,Option.some.injEq,Prod.mk.injEq,List.cons.injEq,true_and] at h;obtain⟨rfl,rfl⟩:=h;refine fin h1 ?_;cases he:e.2 with
       | cells cs=>rw[he] at ho;exact .cells (.under (Wp ho))
       | _=>rw[he] at ho;cases ho
       cases h;cases h
     | some p =>
       simp only[lQ,YI] at h;unfold qW at h;split at h;rename_i l3 as h1;simp only[wZ,Option.some.injEq,Prod.mk.injEq,List.cons.injEq] at h;obtain⟨rfl,h2,rfl⟩:=h;exact fin h1 (by rw[h2];exact p.h);cases h
abbrev RO2:=Option (List AV×AS×List AV×List (Option AL))
def aeD(oB:List AV)(n m:Nat)(fr':List AV)(s':AS)(bs:List AV)(cs:List (Option AL)):RO2 :=
 match YR n fr' oB bs with
 | some (fr2,as)=>(match YI n (Sh n s'.h) cs with
   | some (h2,cas)=>some (fr2,⟨h2,n,Vp m s'.F,m⟩,as,cas)
   | none=>none)
 | none=>none
section
variable {P:Program} {G:A6}
def cD(hG:∀g cs,G g=some cs->BA cs=true){oB:List AV}{s0:AS}{fr':List AV}{s':AS}{fps:List (FP s0.nx s0.nr)}{fbs:List (FO s0.nx s0.nr)}{fr2:List AV}{s2:AS}(h:aeD oB s0.nx s0.nr fr' s' (YC fps) (lQ fbs)=some (fr2,s2,dH fps,wZ fbs)):sZ G s0 fr' s' fr2 s2:=by
 unfold aeD at h;split at h;rename_i f1 as hm;split at h;rename_i h1 cas hb;simp only[Option.some.injEq,Prod.mk.injEq] at h;obtain⟨rfl,rfl,rfl,rfl⟩:=h;intro cx w c' w' vs hx hs hs' hfr;obtain⟨hd,hl⟩:=ajA hb;refine ajV (s:=s0) (s2:=⟨h1,s0.nx,Vp s0.nr s'.F,s0.nr⟩) hG rfl rfl (hd _ (eY hs'.desc)) (λid b hb=>?_) (λr n hr=>fE hr) (alO hm) cx w c' w' vs hx hs hs' hfr;obtain⟨b',h3,h4⟩:=hl id b hb;exact⟨b',SL hs'.desc h3,h4⟩;cases h;cases h
def sZ.wk{s0 s':AS}{fr' k:List AV}:sZ G s0 fr' s' (wkF fr' k) s':=λ_ _ c' _ _ hx _ hs' hfr=>⟨c',hx,hs',Rt hfr⟩
def nP(oB:List AV):HR->Option (AX×List Cd×List AV×AS)
 | some (.fin e,[],cd,fr,s)=>some (e,cd,wkF fr oB,s)
 | _=>none
def K6{r:HR}{X:Prop}{L:Code}{s0:AS}{Q:AX->List AV->AS->Prop}{l:List (PC P G)}{fr2:List AV}{s2:AS}(R:TF P G l (Tc P G L s0 Q) r X)(h:nP fr2 r=some (.normal,dO l,fr2,s2))(k:WL P G (XS P G) H0 L fr2 s2 Q):X:=by
 unfold nP at h;split at h;simp only[Option.some.injEq,Prod.mk.injEq] at h;obtain⟨rfl,rfl,h3,rfl⟩:=h;exact R _ _ _ _ rfl (Np l) ⟨_,_,h3▸sZ.wk,k⟩;cases h
def Fi{r:HR}{X:Prop}{L:Code}{s0:AS}{Q:AX->List AV->AS->Prop}{l:List (PC P G)}{id:Nat}{fr2:List AV}{s2:AS}(R:TF P G l (Tc P G L s0 Q) r X)(h:nP fr2 r=some (.exit id,dO l,fr2,s2))(k:Q (.exit id) fr2 s2):X:=by
 unfold nP at h;split at h;simp only[Option.some.injEq,Prod.mk.injEq] at h;obtain⟨rfl,rfl,h3,rfl⟩:=h;exact R _ _ _ _ rfl (Np l) ⟨_,_,h3▸sZ.wk,k⟩;cases h
def arW(oB:List AV)(n m:Nat)(bs:List AV)(cs:List (Option AL)):HR->Option (AX×List Cd×List AV×AS×List AV×List (Option AL))
 | some (.fin e,[],cd,fr,s)=>(match aeD oB n m fr s bs cs with
   | some (fr2,s2,as,cas)=>some (e,cd,fr2,s2,as,cas)
   | none=>none)
 | _=>none
def Hg(hG:∀g cs,G g=some cs->BA cs=true){r:HR}{X:Prop}{L:Code}{s0:AS}{Q:AX->List AV->AS->Prop}{l:List (PC P G)}(fps:List (FP s0.nx s0.nr))(fbs:List (FO s0.nx s0.nr)){fr2:List AV}{s2:AS}(R:TF P G l (Tc P G L s0 Q) r X)
   (h:arW fr2 s0.nx s0.nr (YC fps) (lQ fbs) r=some (.normal,dO l,fr2,s2,dH fps,wZ fbs)) (k:WL P G (XS P G) H0 L fr2 s2 Q):X:=by
 unfold arW at h;split at h;split at h;rename_i h1;simp only[Option.some.injEq,Prod.mk.injEq] at h;obtain⟨rfl,rfl,rfl,rfl,rfl,rfl⟩:=h;exact R _ _ _ _ rfl (Np l) ⟨_,_,cD hG h1,k⟩;cases h;cases h
def aBQ(n m0:Nat)(P:Program)(fn:Func)(m:Nat)(e0:AX)(oB bs:List AV)(cs:List (Option AL)):HR->Option (AX×List Cd×List AV×AS×List AV×List (Option AL))
 | some (.fin e,[],cd,fr,s)=>(match Gg P s fn fr with
   | some v=>(match aeD oB n m0 [v] (s.cut m) bs cs with
     | some (fr2,s2,as,cas)=>some (e,cd,fr2,s2,as,cas)
     | none=>none)
   | none=>none)
 | _=>none
def Au(hG:∀g cs,G g=some cs->BA cs=true){r:HR}{X:Prop}{s0:AS}{Q:AX->List AV->AS->Prop}(fn:Func)(m:Nat){l:List (PC P G)}(fps:List (FP s0.nx s0.nr))(fbs:List (FO s0.nx s0.nr)){v:AV}{s2:AS}(R:TF P G l Q r X)
   (h:aBQ s0.nx s0.nr P fn m .ret [v] (YC fps) (lQ fbs) r=some (.ret,dO l,[v],s2,dH fps,wZ fbs)) (k:PG P G fn m s0 Q v s2):X:=by
 unfold aBQ at h;split at h;split at h;rename_i v' hv;split at h;rename_i h1;simp only[Option.some.injEq,Prod.mk.injEq] at h;obtain⟨rfl,rfl,rfl,rfl,rfl,rfl⟩:=h;exact R _ _ _ _ rfl (Np l) (k _ _ (cD hG h1) _ _ hv rfl);cases h;cases h;cases h
def ayV(z:List NZ)(oB:List AV):HR->Option (List Cd×Nat×Code×List KI×List AV×AS)
 | some (.at id c ks,[],cd,fr,s)=>(match nzs z fr s with
   | some (fr2,s2)=>some (cd,id,c,ks,wkF fr2 oB,s2)
   | none=>none)
 | _=>none
def IA{r:HR}{X:Prop}{Q:AX->List AV->AS->Prop}{l:List (PC P G)}(z:List NZ)(id:Nat)(L:Code)(Vy:List KI){fr2:List AV}{s2:AS}(R:TF P G l Q r X)
   (h:ayV z fr2 r=some (dO l,id,L,Vy,fr2,s2)) (k:WL P G (XS P G) H0 L fr2 s2 (Ew id (D3 P G Vy Q))):X:=by
 unfold ayV at h;split at h;split at h;rename_i fr3 s3 hz;simp only[Option.some.injEq,Prod.mk.injEq] at h;obtain⟨rfl,rfl,rfl,rfl,h5,rfl⟩:=h;refine R _ _ _ _ rfl (Np l) ?_;obtain⟨e3,fr4,s4,h3,h4⟩:=k;refine⟨e3,fr4,s4,.asJ (λcx w vs hs hr=>?_) h3,h4⟩;obtain⟨c2,x2,Ty,r2⟩:=nB hz cx w vs hs hr;exact⟨c2,x2,Ty,h5▸Rt r2⟩;cases h;cases h
def jv(j:List Value)(k:Nat):Value:=awH j k
def hdv(p:Nat):List (Nat×Value)->Option Value
 | []=>none
 | e::_=>(match Nat.beq e.1 p with | true=>some e.2 | false=>none)
def jsN(j:List Value)(l:List (Nat×Value))(k:Nat):Nat->List Value
 | 0=>[]
 | n+1=>(match hdv k l with
   | some v=>v::jsN j (l.drop 1) (k+1) n
   | none=>jv j k::jsN j l (k+1) n)
def js(n:Nat)(j:List Value)(l:List (Nat×Value)):List Value:=jsN j l 0 n
def frQ:Nat->Nat->List (Nat×AV)->List Nat->Nat->List Value->List AV
 | 0,_,_,_,_,_=>[]
 | n+1,p,l,bs,kb,j=>(match frm.hd1 p l with
   | some v=>v::frQ n (p+1) (l.drop 1) bs kb j
   | none=>(match frm.hd2 p bs with
     | true=>.sc (jv j kb)::frQ n (p+1) l (bs.drop 1) (kb+1) j
     | false=>.any::frQ n (p+1) l bs kb j))
def fr(n:Nat)(l:List (Nat×AV))(bs:List Nat)(j:List Value):List AV:=frQ n 0 l bs 0 j
def exR{δ:Type}(Q:AX->List AV->AS->Prop)(id:Nat)(F:δ->List Value->List AV)(S:δ->AS)(d:δ):Prop:=∀j,Q (.exit id) (F d j) (S d)
section loops
variable {α γ δ ρ β:Type} {id:Nat} {L:Code} {Vy:List KI} {Q:AX->List AV->AS->Prop} {done:γ->δ} {X:Prop} {k:δ->Option β} {kr:ρ->Option β} {r:β}
def QW(Rv:(AX->List AV->AS->Prop)->ρ->Prop){body:Nat->α->γ->Option (Lp γ δ ρ)}{l:List α}{i0:Nat}{x:γ}(F:Nat->γ->List Value->List AV)(S:γ->AS)(XF:δ->List Value->List AV)(SX:δ->AS)(j:List Value)
   (SO:WL P G (XS P G) H0 L (F i0 x j) (S x) (Ew id (D3 P G Vy Q))->X)
   (hz:∀i x j,l.length<=i->exR (Ew id (D3 P G Vy Q)) id XF SX (done x)->W P G (XS P G) H0 L (F i x j) (S x) (Tc P G L (S x) (Ew id (D3 P G Vy Q))))
   (hs:∀i y x j r,l[i]?=some y->i < l.length->i < 9223372036854775807->RQ (λx'=>∀j',WL P G (XS P G) H0 L (F (i+1) x' j') (S x') (Ew id (D3 P G Vy Q))) (exR (Ew id (D3 P G Vy Q)) id XF SX) (Rv (Ew id (D3 P G Vy Q))) r->body i y x=some r->W P G (XS P G) H0 L (F i x j) (S x) (Tc P G L (S x) (Ew id (D3 P G Vy Q))))
   (hb:∀d j,k d=some r->D3 P G Vy Q .normal (XF d j) (SX d)) (hr:∀v,kr v=some r->Rv (Ew id (D3 P G Vy Q)) v) :
   (Sx l.length (Dh body done (l.drop i0) i0 x)).bind (PD k kr)=some r->X:=λh=>by
 obtain⟨res,h1,h2⟩:=eG h;obtain⟨hl,h1⟩:=aJH h1;refine SO (aiQ l F (λ_ x _=>S x) (λ_=>True) (exR (Ew id (D3 P G Vy Q)) id XF SX) (Rv (Ew id (D3 P G Vy Q))) (λi x j _ h3 h4=>Z6 (hz i x j h3 h4)) (λi y x j r _ h3 h4 h5 h6=>Z6 (hs i y x j r h3 h4 (by omega) (by cases r with | nx _=>exact λj'=>h6 j' trivial | ex _=>exact h6 | rt _=>exact h6) h5)) i0 h1 ?_ j trivial)
 cases res with
 | inl d =>
   intro j;show D3 P G Vy Q (EG id (.exit id)) _ _;rw[show EG id (.exit id)=.normal from by simp[EG]];exact hb d j h2
 | inr v=>exact hr v h2
def UF(Rv:(AX->List AV->AS->Prop)->ρ->Prop){body:γ->Option (Lp γ δ ρ)}{x:γ}(F:γ->List Value->List AV)(S:γ->AS)(XF:δ->List Value->List AV)(SX:δ->AS)(j:List Value)
   (SO:WL P G (XS P G) H0 L (F x j) (S x) (Ew id (D3 P G Vy Q))->X)
   (hs:∀x j r,RQ (λx'=>∀j',WL P G (XS P G) H0 L (F x' j') (S x') (Ew id (D3 P G Vy Q))) (exR (Ew id (D3 P G Vy Q)) id XF SX) (Rv (Ew id (D3 P G Vy Q))) r->body x=some r->W P G (XS P G) H0 L (F x j) (S x) (Tc P G L (S x) (Ew id (D3 P G Vy Q))))
   (hb:∀d j,k d=some r->D3 P G Vy Q .normal (XF d j) (SX d)) (hr:∀v,kr v=some r->Rv (Ew id (D3 P G Vy Q)) v) :
   (PO body x).bind (PD k kr)=some r->X:=λh=>by
 obtain⟨res,h1,h2⟩:=eG h;obtain⟨n,h1⟩:=ajT h1;refine SO (aiR F (λx _=>S x) (λ_=>True) (exR (Ew id (D3 P G Vy Q)) id XF SX) (Rv (Ew id (D3 P G Vy Q))) (λx j r _ h5 h6=>Z6 (hs x j r (by cases r with | nx _=>exact λj'=>h6 j' trivial | ex _=>exact h6 | rt _=>exact h6) h5)) n h1 ?_ j trivial)
 cases res with
 | inl d =>
   intro j;show D3 P G Vy Q (EG id (.exit id)) _ _;rw[show EG id (.exit id)=.normal from by simp[EG]];exact hb d j h2
 | inr v=>exact hr v h2
end loops
def KW{ks:List KI}{fr:List AV}{s:AS}{Q:AX->List AV->AS->Prop}(n:Nat)(l:List (PC P G)):TF P G l Q (QG (RZ P G n) ks .normal (pHs l) fr s) (D3 P G ks Q .normal fr s):=λ_ _ _ _ h hc hk=>aU (aW n) ks _ h hc hk
def pi{i:Nat}(h:i < 9223372036854775807):PC P G:=aJP i h
def bp{n m:Nat}{a:List AV}(h:BA a=true):FO n m:=some ⟨.cells a,.cells a,.cells (.plain h)⟩
def bu{n m:Nat}(a:List AV)(h:Fh n m a=true):FO n m:=some ⟨.cells a,.cells a,.cells (.under h)⟩
def bw{n m:Nat}(a b:AL)(h:Qk n m a b):FO n m:=some ⟨a,b,h⟩
def pure_nil{f:FuncId}{n:Nat}{cs:List AV}{v:AV}(h1:n=0->cs=[]->Pure P G f [.sl .nil 0 []] v)(h2:Pure P G f [.sl .nn n cs] v):Pure P G f [.sl .lost n cs] v:=λs cx w vs hs ha=>by
 cases ha with
 | cons h t =>
   cases h with
   | @sl0 _ A cap _ =>
     cases hA:A.isNone with
     | true=>exact h1 rfl rfl s cx w _ hs (.cons (.sl0 hA) t)
     | false=>exact h2 s cx w _ hs (.cons (.sl0 hA) t)
   | Kx hn hc _=>exact h2 s cx w _ hs (.cons (.Kx hn hc trivial) t)
def aBK{n:Nat}{l:List AV}(h:BA l=true):plain (.sl .nn n l)=true:=by simp only[plain,h];rfl
end
end AI
namespace AI
open Go Go.RowKit
section
variable {P:Program} {G:A6}
def oJ(G:A6)(s:AS)(a v:AV):Prop:=∀(c:Cx) (w:World) (u:Value),St G c w s->(∀g,some g∈c.CN->∀i,¬c.bad g i)->Rp c w a u->Rp (c.upto 0 0) w v u
inductive Fz(s:AS):List AV->List AV->Prop where
 | nil:Fz s [] []
 | r {a b:AV} {l k:List AV} (h:Fits 0 0 a b) (t:Fz s l k):Fz s (a::l) (b::k)
 | f {id n:Nat} {cs l k:List AV} (h:s.get id=some (.cells cs)) (hp:BA cs=true) (t:Fz s l k):Fz s (.msl id 0 n::l) (.sl .lost n cs::k)
 | g {cs ds l k:List AV} (h:Fz s cs ds) (t:Fz s l k):Fz s (.agg cs::l) (.agg ds::k)
 | u {cs ds l k:List AV} (h:Fz s cs ds) (t:Fz s l k):Fz s (.Df cs::l) (.Df ds::k)
def Fz.ok{s:AS}{c:Cx}{w:World}(hs:St G c w s)(hb:∀g,some g∈c.CN->∀i,¬c.bad g i){l k:List AV}(h:Fz s l k):∀{us:List Value},Cz c w l us->Cz (c.upto 0 0) w k us:=by
 induction h with
 | nil=>intro us hr;cases hr;exact .nil
 | r h _ ih=>intro us hr;cases hr with | cons h1 t=>exact .cons (h _ _ _ h1) (ih t)
 | @f id n cs l k h hp _ ih =>
   intro us hr;cases hr with
   | cons h1 t =>
     refine .cons ?_ (ih t);cases h1 with
     | @msl _ _ _ g cap hn hid =>
       obtain⟨vs,ext,T,hw,hv⟩:=O0 hs hid h;have hg:=List.mem_of_getElem? hid
       have Ia:∀g i v,Lq c w g i v->Lq (c.upto 0 0) w g i v:=λg i v hv=>⟨hv.1,λGi=>by
         rcases Gi with Gi | ⟨r,n',cap',MP,hr,_⟩ | Gi
         simp[Cx.upto] at Gi;simp[Cx.upto] at hr;exact hv.2.1 (.inr (.inr Gi)),hv.2.2⟩
       refine .Kx hn (A9.Oa (Cz.plain Ia hp hv) (λi v hi=>?_)) trivial;rw[Nat.zero_add];refine⟨hs.L0 g hg,λGi=>?_,cell_of_heap hw (Ry hi)⟩;rcases Gi with Gi | ⟨r,n',cap',MP,hr,_⟩ | Gi
       simp[Cx.upto] at Gi;simp[Cx.upto] at hr;exact hb g hg i Gi
 | g _ _ mM uS=>intro us hr;cases hr with | cons h1 t=>cases h1 with | agg h2=>exact .cons (.agg (mM h2)) (uS t)
 | u _ _ mM uS=>intro us hr;cases hr with | cons h1 t=>cases h1 with | Df h2=>exact .cons (.Df (mM h2)) (uS t)
def oJ.of{s:AS}{a v:AV}(h:Fz s [a] [v]):oJ G s a v:=λc w u hs hb hr=>by
 have:=h.ok hs hb (.cons hr .nil);cases this with
 | cons h1 _=>exact h1
def aJQ{t tx:TypeId}{a b:AV}{n:Nat}{m:AL}(h:Cd.ok P G (.apB t tx a b n m)):PC P G:=⟨.mb n m,[.apB t tx a b n m],⟨h,trivial⟩⟩
def Ou.apm{α:Type}{f:α->List AV}{C:List α->List AV}{k:Nat}(h:Ou f C k){t tx e e2 yI:Nat}(hu:P.underlying t=some (.slice e))(hux:P.underlying tx=some (.slice e2))(hi:(P.info? e).map (λi=>(i.size,i.bytes,i.zero.map (·.cells.size)))=some (k,yI,some k))(hk:0 < k)(hb:yI<=10000)(h1:∀x,(f x).all one=true)
   (m:List α) {o:Own} (hm:¬m.length=0) (hlen:m.length<=100000000):Cd.ok P G (.apB t tx (.sl .full 0 []) (.sl o m.length (C m)) m.length (.cells (C m))):=by
 cases hq:P.info? e with
 | none=>rw[hq] at hi;cases hi
 | some i =>
   rw[hq] at hi;simp only[Option.map_some,Option.some.injEq,Prod.mk.injEq] at hi;obtain⟨h3,h4,h5⟩:=hi;cases hz:i.zero with
   | none=>rw[hz] at h5;cases h5
   | some z =>
     intro s;refine asY hu hq hz (λs=>?_) hm (h.kY h1 m) (by rw[h4];exact Nat.le_trans (Nat.mul_le_mul hlen hb) (by decide)) (by omega) s;unfold VR;rw[hux,h3];simp only[h.eq,Iy h.len,if_true]
end
end AI
namespace AI
open Go
end AI
namespace AI
open Go Go.RowKit
end AI
namespace AI
open Go Go.RowKit
abbrev EW:=Cx->World->Prop
abbrev QE:=AX->List AV->AS->EW->Prop
def EOk(e:AX)(fr:List AV)(c:Cx)(w:World)(e':Exit)(a:Act):Prop:=match e with
 | .normal=>e'=.normal/\Cz c w fr a.tmps.toList
 | .exit id=>e'=.exit id/\Cz c w fr a.tmps.toList
 | .ret=>e'=.ret/\Cz c w fr a.tmps.toList
 | .pan v=>∃u,e'=.panic [{ v:=u,recovered:=false }]/\Rp c w v u
def EPost(G:A6)(Q:QE)(K:Exit->Act->World->Prop):Prop:=∀e fr s E,Q e fr s E->∀(cx:Cx) (w:World) (a:Act) (e':Exit),E cx w->St G cx w s->a.defers=[]->EOk e fr cx w e' a->K e' a w
def WE(P:Program)(G:A6)(E:EW)(c:Code)(fr:List AV)(s:AS)(Q:QE):Prop:=∀(cx:Cx) (w:World) (a:Act) (K:Exit->Act->World->Prop),E cx w->St G cx w s->Cz cx w fr a.tmps.toList->a.defers=[]->EPost G Q K->c.wp P K a w
def OR(P:Program)(G:A6)(E:EW)(ops:Array Oper)(l:List Nat)(fr:List AV)(s:AS)(Q:QE):Prop:=∀(cx:Cx) (w:World) (a:Act) (K:Exit->Act->World->Prop),E cx w->St G cx w s->Cz cx w fr a.tmps.toList->a.defers=[]->EPost G Q K->wpOps P ops K l a w
def TA(E:EW):Prop:=∀(cx:Cx) (w:World) (QF:Cx) (w':World),E cx w->Ext cx w QF w'->E QF w'
def EOk.Pa{e:AX}{fr:List AV}{c:Cx}{w:World}{e':Exit}{a:Act}(h:EOk e fr c w e' a)(he:e≠.normal):e'≠.normal:=by
 cases e with
 | normal=>exact absurd rfl he
 | exit id=>intro h5;rw[h.1] at h5;cases h5
 | ret=>intro h5;rw[h.1] at h5;cases h5
 | pan v=>obtain⟨u,h5,_⟩:=h;intro h6;rw[h5] at h6;cases h6
section
variable {P:Program} {G:A6} {E:EW} {fr:List AV} {s:AS} {Q:QE}
def WE.of(hm:P.follows .mixedOrders=true)(hk:TA E){c:Code}{Q0:AX->List AV->AS->Prop}(h:W P G (XS P G) H0 c fr s Q0)(hQ:∀e fr' s',Q0 e fr' s'->Q e fr' s' E):WE P G E c fr s Q:=by
 obtain⟨e,fr',s',hj,hq⟩:=h;have hS:=sound (Q9 hm) hj;intro cx w a K hE hs hf hd hK;refine hS cx w a K hs hf hd ?_;rintro e' a' w' ⟨c',hx,hs',QH,h4⟩;refine hK e fr' s' E (hQ _ _ _ hq) c' w' a' e' (hk _ _ _ _ hE hx) hs' QH ?_;cases e<;>exact h4
def WE.seq{x y:Code}(h:WE P G E x fr s (λe fr' s' E'=>(e=.normal/\WE P G E' y fr' s' Q)\/(e≠.normal/\Q e fr' s' E'))):WE P G E (.seq x y) fr s Q:=by
 intro cx w a K hE hs hf hd hK;refine wp_seq (h cx w a _ hE hs hf hd ?_);rintro e fr' s' E' hq QF w' a' e' fK hs' QH TW;rcases hq with ⟨rfl,h2⟩ | ⟨hne,hq⟩
 obtain⟨rfl,fR⟩:=TW;exact h2 QF w' a' K fK hs' fR QH hK;exact Uj (TW.Pa hne) (hK _ _ _ _ hq _ _ _ _ fK hs' QH TW)
def WE.cond{q:Operand}{x y:Code}{t:Bool}(hq:A8 G fr q=some (.sc (.bool t)))(h:WE P G E (if t then x else y) fr s Q):WE P G E (.cond q x y) fr s Q:=by
 intro cx w a K hE hs hf hd hK;have hr:=El hs hf hq
 have Is:a.eval q=.bool t:=by
   generalize a.eval q=v at hr;cases hr;rfl
 exact wp_cond Is (h cx w a K hE hs hf hd hK)
def WE.skip(h:Q .normal fr s E):WE P G E .skip fr s Q:=λcx w a K hE hs hf hd hK=>wp_skip (hK _ _ _ _ h cx w a _ hE hs hd ⟨rfl,hf⟩)
def WE.exit{id:Nat}(h:Q (.exit id) fr s E):WE P G E (.exit id) fr s Q:=λcx w a K hE hs hf hd hK=>wp_exit (hK _ _ _ _ h cx w a _ hE hs hd ⟨rfl,hf⟩)
def WE.block{id:Nat}{c:Code}(h:WE P G E c fr s (λe fr' s' E'=>Q (EG id e) fr' s' E')):WE P G E (.block id c) fr s Q:=by
 intro cx w a K hE hs hf hd hK;refine wp_block (h cx w a _ hE hs hf hd ?_);rintro e fr' s' E' hq QF w' a' e' fK hs' QH h4;cases e with
 | normal=>obtain⟨rfl,h5⟩:=h4;exact hK _ _ _ _ hq QF w' a' _ fK hs' QH ⟨rfl,h5⟩
 | exit Qp =>
   obtain⟨rfl,h5⟩:=h4;show if Qp=id then K .normal a' w' else K (.exit Qp) a' w'
   by_cases hid:Qp=id;rw[if_pos hid];refine hK _ _ _ _ hq QF w' a' _ fK hs' QH ?_;simp only[EG,hid,if_true];exact⟨rfl,h5⟩;rw[if_neg hid];refine hK _ _ _ _ hq QF w' a' _ fK hs' QH ?_;simp only[EG,hid,if_false];exact⟨rfl,h5⟩
 | ret=>obtain⟨rfl,h5⟩:=h4;exact hK _ _ _ _ hq QF w' a' _ fK hs' QH ⟨rfl,h5⟩
 | pan v=>obtain⟨u,rfl,h5⟩:=h4;exact hK _ _ _ _ hq QF w' a' _ fK hs' QH ⟨u,rfl,h5⟩
def WE.loop{L:Code}(I:Nat->List AV->AS->EW->Prop)(h:∀m fr s E,I m fr s E->WE P G E L fr s (λe fr' s' E'=>(e=.normal/\∃m',m' < m/\I m' fr' s' E')\/(e≠.normal/\Q e fr' s' E'))){m:Nat}(hi:I m fr s E):WE P G E (.loop L) fr s Q:=by
 have key:∀(n m:Nat) (fr:List AV) (s:AS) (E:EW),m < n->I m fr s E->∀(cx:Cx) (w:World) (a:Act) (K:Exit->Act->World->Prop),E cx w->St G cx w s->Cz cx w fr a.tmps.toList->a.defers=[]->EPost G Q K->Code.rounds P L K n a w:=by
   intro n
   induction n with
   | zero=>intro m fr s E hm;omega
   | succ n ih =>
     intro m fr s E hm hi cx w a K hE hs hf hd hK;rw[rounds_succ];refine h m fr s E hi cx w a _ hE hs hf hd ?_;rintro e fr' s' E' hq QF w' a' e' fK hs' QH TW;rcases hq with ⟨rfl,m',hm',OU⟩ | ⟨hne,hq⟩
     obtain⟨rfl,fR⟩:=TW;exact ih m' fr' s' E' (by omega) OU QF w' a' K fK hs' fR QH hK;exact Uj (TW.Pa hne) (hK _ _ _ _ hq _ _ _ _ fK hs' QH TW)
 intro cx w a K hE hs hf hd hK;exact wp_loop_rounds (m+1) (key (m+1) m fr s E (Nat.lt_succ_self m) hi cx w a K hE hs hf hd hK)
def WE.region{id:Nat}{ops:Array Oper}(h:OR P G E ops (List.range ops.size) fr s Q):WE P G E (.region id ops false) fr s Q:=λcx w a K hE hs hf hd hK=>wp_region (h cx w a K hE hs hf hd hK)
def OR.nil{ops:Array Oper}(h:Q .normal fr s E):OR P G E ops [] fr s Q:=λcx w a K hE hs hf hd hK=>hK _ _ _ _ h cx w a .normal hE hs hd ⟨rfl,hf⟩
def OR.op(hm:P.follows .mixedOrders=true)(hk:TA E){ops:Array Oper}{i:Nat}{l:List Nat}{o:Oper}(v:AV){s1:AS}(ho:ops[i]?=some o)(hj:J P G (XS P G) H0 (.op ops o fr s (.ret v) s1))(t:OR P G E ops l (Ij fr o.dst v) s1 Q):OR P G E ops (i::l) fr s Q:=by
 intro cx w a K hE hs hf hd hK;refine Ln ho (sound (Q9 hm) hj cx w a _ _ hs (λx _=>bQ hs hf x) (M4 (c:=cx) (w:=w) (λ_ _ _ _ _=>⟨fr,hf,rfl⟩)) ?_);intro u w' c' hx hs' hu;exact t c' w' (a.put o.dst u) K (hk _ _ _ _ hE hx) hs' (N1 (hf.mono hx) hu) (by cases o.dst<;>exact hd) hK
def OR.sem{E':EW}{ops:Array Oper}{i:Nat}{l:List Nat}{o:Oper}{fr2:List AV}(v:AV){s2:AS}(ho:ops[i]?=some o)(hg:o.guard=none)
   (h:∀(cx:Cx) (w:World) (a:Act),E cx w->St G cx w s->Cz cx w fr a.tmps.toList->∃u w' QF,(execOp a.eval o).run P w=.ok (.value u) w'/\E' QF w'/\St G QF w' s2/\Cz QF w' fr2 a.tmps.toList/\Rp QF w' v u)
   (t:OR P G E' ops l (Ij fr2 o.dst v) s2 Q):OR P G E ops (i::l) fr s Q:=by
 intro cx w a K hE hs hf hd hK;refine Ln ho ?_;obtain⟨u,w',QF,hr,fK,hs',fR,hu⟩:=h cx w a hE hs hf;unfold L6;have hw:Region.wanted o (yielded ops a.tmps)=true:=by unfold Region.wanted;rw[hg]
 rw[hw];simp only[if_true];unfold Oper.wp;rw[hr];exact t QF w' (a.put o.dst u) K fK hs' (N1 fR hu) (by cases o.dst<;>exact hd) hK
end
def ayM(b:Nat)(B:Nat->Nat->Prop)(w0:World)(E:EW):Prop:=∀(c:Cx) (w:World),E c w->c.base=b/\Below b w0 w/\(∀g i,B g i->c.bad g i)/\∀g i,some g∈c.CN->c.bad g i->g < b
def E0(b:Nat)(B:Nat->Nat->Prop)(w0:World):EW:=λc w=>c.base=b/\c.bad=B/\Below b w0 w
def E0.GF{b:Nat}{B:Nat->Nat->Prop}{w0:World}:TA (E0 b B w0):=λcx w QF w' h hx=>⟨hx.base.trans h.1,hx.bad.trans h.2.1,h.2.2.trans (by have:=hx.below;rw[h.1] at this;exact this)⟩
def aBN{P:Program}{G:A6}(hm:P.follows .mixedOrders=true)(hG:∀g cs,G g=some cs->BA cs=true){f:FuncId}{fn:Func}{c:Code}{args:List AV}{v:AV}(hf:P.funcs[f]?=some fn)(hb:fn.body=some c)
   (h:∀(b:Nat) (B:Nat->Nat->Prop) (w0:World),(∀g i,B g i->g < b)->WE P G (E0 b B w0) c (args++List.replicate (fn.ntmps - args.length) (.sc undef)) s0 (λe fr' s' E'=>(e=.normal\/e=.ret)/\ayM b B w0 E'/\∃a,Gg P s' fn fr'=some a/\oJ G s' a v))
   (hp:BA args=true) (hv:plain v=true):Pure P G f args v:=by
 intro s cx w vs hs Gh
 have Ia:∀g i x,Lq cx w g i x->Lq ⟨w.heap.size,[],[],cx.YZ⟩ w g i x:=by
   intro g i x hx;refine⟨hx.1,λGi=>?_,hx.2.2⟩;rcases Gi with Gi | ⟨r,n,cap,sz,hr,_⟩ | Gi
   cases Gi;simp at hr;exact hx.2.1 Gi
 have FW:St G ⟨w.heap.size,[],[],cx.YZ⟩ w s0 :=
   ⟨rfl,trivial,(λi j g h1=>by simp at h1),(λg hg=>by cases hg),(λid g b h1=>by simp at h1),rfl,(λr g n cap sz hr=>by simp at hr),(λr n hr=>by cases hr),(λg hg=>by cases hg),(λg i hb=>hs.Tf hb),(λr r' g n cap sz n' cap' MP hr=>by simp at hr),(λg cs hg=>A9.plain Ia (hG g cs hg) (hs.Ma g cs hg)),Nat.le_refl _⟩
 have hl:=Gh.len;refine calls_of_wp hf hb (h w.heap.size cx.YZ w (λg i hb=>hs.Tf hb) ⟨w.heap.size,[],[],cx.YZ⟩ w _ _ ⟨rfl,rfl,Below.refl _ _⟩ FW ?_ rfl ?_);simp only[Array.toList_append,Array.toList_replicate];rw[show vs.toArray.size=args.length by rw[List.size_toArray,hl]];exact(Cz.plain Ia hp Gh).append (Cz.replicate (.sc rfl) _);rintro e fr' s' E' ⟨he,UP,a0,hr,hft⟩ c' w' a' e' fK Mb QH TW;obtain⟨h1,NS,h3,h4⟩:=UP c' w' fK
 have aIA:Cz c' w' fr' a'.tmps.toList/\(e'=.normal\/e'=.ret):=by
   rcases he with rfl | rfl
   exact⟨TW.2,.inl TW.1⟩;exact⟨TW.2,.inr TW.1⟩
 obtain⟨hf5,he'⟩:=aIA;obtain⟨u,h6,h7⟩:=QV Mb hf5 hr;obtain⟨x2,Ty⟩:=hs.same (w':=w') ⟨NS.os,NS.tape,NS.output,NS.size,λk hk _=>NS.block k hk⟩
 have Ks:∀g,some g∈c'.CN->∀i,¬c'.bad g i:=λg hg i hb=>by
   have h5:=Mb.low g hg;have:=h4 g i hg hb;omega
 have uO:=hft _ _ _ Mb Ks h7;have fQ:ayO G cx w (.ret v) s (.returned u) w':=⟨cx,x2,Ty,u,rfl,Rp.plain (c:=c'.upto 0 0) (λg i x fX=>⟨fX.1,λGi=>fX.2.1 (.inr (.inr (h3 g i Gi))),fX.2.2⟩) hv uO⟩;rcases he' with rfl | rfl
 exact⟨QH,u,h6,fQ⟩;exact⟨QH,u,h6,fQ⟩
end AI
namespace AI
open Go Go.RowKit
def Fu:Code->Array Oper
 | .region _ ops _=>ops
 | _=>#[]
def Rl:Code->Nat->Bool
 | .region _ ops d,n=>(match d with
   | false=>Nat.beq ops.size n
   | true=>false)
 | _,_=>false
def aJJ:Oper:={ dst:=none,op:=.move (.tmp 0),type:=0,pos:="",after:=#[],guard:=none }
def opAt(c:Code)(i:Nat):Oper:=((Fu c)[i]?).getD aJJ
def rG{c:Code}{n:Nat}(h:Rl c n=true):(∃id,c=.region id (Fu c) false)/\(Fu c).size=n:=by
 unfold Rl at h;split at h;rename_i id ops d;split at h;exact⟨⟨id,rfl⟩,Nat.eq_of_beq_eq_true h⟩;cases h;cases h
def KN{c:Code}{n i:Nat}(h:Rl c n=true)(hi:i < n):(Fu c)[i]?=some (opAt c i):=by
 have:=(rG h).2;unfold opAt;rw[Array.getElem?_eq_getElem (by omega)];rfl
def qI(o:Oper):Option (Operand×TypeId):=match o.guard with
 | none=>(match o.op with
   | .call cl=>(match cl.callee with
     | .builtin .len=>(match cl.args.toList with
       | [x]=>(match cl.argTypes.toList with
         | [t]=>some (x,t)
         | _=>none)
       | _=>none)
     | _=>none)
   | _=>none)
 | some _=>none
def dZ(o:Oper):Option (Operand×Operand×TypeId×TypeId):=match o.guard with
 | none=>(match o.op with
   | .call cl=>(match cl.callee with
     | .builtin .append=>(match cl.args.toList with
       | [x,y]=>(match cl.argTypes.toList with
         | [t,tx]=>some (x,y,t,tx)
         | _=>none)
       | _=>none)
     | _=>none)
   | _=>none)
 | some _=>none
def rP(o:Oper):Option (TypeId×Operand×Operand):=match o.guard with
 | none=>(match o.op with
   | .slice t x lo hi mx=>(match lo with
     | none=>(match hi with
       | some y=>(match mx with
         | none=>some (t,x,y)
         | _=>none)
       | _=>none)
     | _=>none)
   | _=>none)
 | some _=>none
def avR(o:Oper):Option (TypeId×Operand×Operand):=match o.guard with
 | none=>(match o.op with
   | .indexAddr t x y=>some (t,x,y)
   | _=>none)
 | some _=>none
def avX(o:Oper):Option (TypeId×Operand):=match o.guard with
 | none=>(match o.op with
   | .load t x=>some (t,x)
   | _=>none)
 | some _=>none
def ajB(o:Oper):Option (TypeId×Operand):=match o.guard with
 | none=>(match o.op with
   | .buildSlice t n ps=>(match n with
     | 1=>(match ps.toList with
       | [(0,x)]=>some (t,x)
       | _=>none)
     | _=>none)
   | _=>none)
 | some _=>none
section
variable {P:Program} {w:World} {ρ:Operand->Value} {o:Oper}
def uV{x:Operand}{t e:TypeId}{A:Option Addr}{n cap:Nat}(h:qI o=some (x,t))(hu:P.underlying t=some (.slice e))(ha:ρ x=.slice A n cap):o.guard=none/\(execOp ρ o).run P w=.ok (.value (.int .i64 n)) w:=by
 unfold qI at h;split at h;rename_i hg;refine⟨hg,?_⟩;split at h;rename_i cl ho;split at h;rename_i H8;split at h;rename_i x' hx;split at h;rename_i t' ht;cases h;have e1:cl.args=#[x]:=by apply Array.ext';rw[hx]
 have e2:cl.argTypes=#[t]:=by apply Array.ext';rw[ht]
 simp[execOp,ho,resolve,H8,e1,e2,invoke,builtin,ha,Builtin.len_,run_underlying hu,goInt];cases h;cases h;cases h;cases h;cases h
def Y6{x y:Operand}{t tx:TypeId}{u:Value}{w':World}(h:dZ o=some (x,y,t,tx))(hr:∀ty,(Builtin.append_ #[t,tx] ty #[ρ x,ρ y]).run P w=.ok u w'):o.guard=none/\(execOp ρ o).run P w=.ok (.value u) w':=by
 unfold dZ at h;split at h;rename_i hg;refine⟨hg,?_⟩;split at h;rename_i cl ho;split at h;rename_i H8;split at h;rename_i x' y' hx;split at h;rename_i t' tx' ht;cases h;have e1:cl.args=#[x,y]:=by apply Array.ext';rw[hx]
 have e2:cl.argTypes=#[t,tx]:=by apply Array.ext';rw[ht]
 simp[execOp,ho,resolve,H8,e1,e2,invoke,builtin,hr];cases h;cases h;cases h;cases h;cases h
def eA{q:Operand×Operand×TypeId×TypeId}(h:dZ o=some q):o.guard=none:=by
 unfold dZ at h;split at h;rename_i hg;exact hg;cases h
def vX{x y:Operand}{t e:TypeId}{i:TypeInfo}{g n cap m:Nat}(h:rP o=some (t,x,y))(hu:P.underlying t=some (.slice e))(hi:P.info? e=some i)(ha:ρ x=.slice (some ⟨g,0,none⟩) n cap)(hy:ρ y=.int .i64 m)(hm:m<=cap):o.guard=none/\(execOp ρ o).run P w=.ok (.value (.slice (some ⟨g,0,none⟩) m cap)) w:=by
 unfold rP at h;split at h;rename_i hg;refine⟨hg,?_⟩;split at h;rename_i t' x' lo OU mx ho;split at h;split at h;split at h;cases h;have b1:Ru 0 none 0:=.inl ⟨rfl,rfl⟩;have b2:Ru n (some (.int .i64 ((m:Nat):Int))) m:=.inr ⟨.i64,(m:Int),rfl,by omega,by simp⟩;simp only[execOp,ho,Option.map_none,Option.map_some,ha,hy,Instr.sliceAt,Sem.run_bind,run_underlying hu,Result.andThen_ok,Instr.slice,Te b1 b2 (Nat.zero_le m) hm,Sem.run_pure,Cy hi];congr 3;split;rfl;simp[add_lit];cases h;cases h;cases h;cases h;cases h
def acH{x y:Operand}{t e:TypeId}{i:TypeInfo}{g n cap m:Nat}(h:avR o=some (t,x,y))(hu:P.underlying t=some (.slice e))(hi:P.info? e=some i)(ha:ρ x=.slice (some ⟨g,0,none⟩) n cap)(hy:ρ y=.int .i64 m)(hm:m < n):o.guard=none/\(execOp ρ o).run P w=.ok (.value (.pointer (some ⟨g,m*i.size,none⟩))) w:=by
 unfold avR at h;split at h;rename_i hg;refine⟨hg,?_⟩;split at h;rename_i t' x' y' ho;cases h;have h0:(0:Int)<=(m:Int):=by omega
 have h1:(m:Int) < (n:Int):=by omega
 simp[execOp,ho,ha,hy,Instr.indexAt,asIntOf,run_underlying hu,hm,Cy hi,add_lit];cases h;cases h
def acM{x:Operand}{t:TypeId}{a:Addr}{u:Value}(h:avX o=some (t,x))(ha:ρ x=.pointer (some a))(hr:(loadVar t a).run P w=.ok u w):o.guard=none/\(execOp ρ o).run P w=.ok (.value u) w:=by
 unfold avX at h;split at h;rename_i hg;refine⟨hg,?_⟩;split at h;rename_i t' x' ho;cases h;simp[execOp,ho,ha,Instr.loadAt,Instr.sureAddr,hr];cases h;cases h
def yH{x:Operand}{t e:TypeId}{i:TypeInfo}{z:Value}(h:ajB o=some (t,x))(hu:P.underlying t=some (.slice e))(hi:P.info? e=some i)(hs:i.size=1)(hz:i.zero=some z)(xH:z.cells.size=1)(hv:(ρ x).cells=#[ρ x]):o.guard=none/\(execOp ρ o).run P w=.ok (.value (.slice (some ⟨w.heap.size,0,none⟩) 1 1)) { w with heap:=w.heap.push (.cells #[ρ x] e) }:=by
 unfold ajB at h;split at h;rename_i hg;refine⟨hg,?_⟩;split at h;rename_i t' n ps ho;split at h;split at h;rename_i x' pT;cases h;have e1:ps=#[(0,x)]:=by apply Array.ext';rw[pT]
 have hf:∀B:Array Value,B.size=1->Instr.fill (λi=>some (i,1)) B [(0,ρ x)]=some #[ρ x]:=by
   intro B hB;obtain⟨b,rfl⟩:=Array.size_eq_one_iff.1 hB;simp[Instr.fill,hv]
 have h2:=hf ((Array.range 1).map (z.cells[· % z.cells.size]!)) (by simp);simp only[execOp,ho,e1,Instr.buildSlice,Sem.run_bind,run_underlying hu,Result.andThen_ok,Cy hi,hs,Sem.run_ite,zeroValue,typeInfo,run_program,hi,hz,Sem.run_pure,List.map_toArray,List.map_cons,List.map_nil,Nat.mul_one,Nat.one_ne_zero,if_false,gt_iff_lt,show ¬(2 ^ 24 < 1) from by decide,newRow];rw[h2];simp;cases h;cases h;cases h;cases h
end
end AI
