/- Part of a proof: see the last text. -/
import Derived.Test.YtpbkhogolfegfaaGreatDoorPpf
import Derived.Laws.StructEq
set_option linter.unusedVariables false
set_option linter.unusedSimpArgs false
set_option linter.defProp false
noncomputable section
namespace AI
open Go Go.RowKit
inductive Wn:List AV->List AV->Prop where
 | nil:Wn [] []
 | r {a:AV} {l k:List AV} (t:Wn l k):Wn (a::l) (a::k)
 | s {o:Own} {n:Nat} {cs ds l k:List AV} (h:cs=ds) (t:Wn l k):Wn (.sl o n cs::l) (.sl .lost n ds::k)
 | d {o:Own} {n:Nat} {cs ds es l k:List AV} (h:Wn cs ds) (e:ds=es) (t:Wn l k):Wn (.sl o n cs::l) (.sl .lost n es::k)
 | g {cs ds l k:List AV} (h:Wn cs ds) (t:Wn l k):Wn (.agg cs::l) (.agg ds::k)
 | u {cs ds l k:List AV} (h:Wn cs ds) (t:Wn l k):Wn (.C6 cs::l) (.C6 ds::k)
def Wn.refl:∀l:List AV,Wn l l
 | []=>.nil
 | _::l=>.r (Wn.refl l)
def Wn.len{l k:List AV}(h:Wn l k):l.length=k.length:=by
 induction h with
 | nil=>rfl
 | r _ ih=>simp[ih]
 | s _ _ ih=>simp[ih]
 | d _ _ _ _ ih=>simp[ih]
 | g _ _ _ ih=>simp[ih]
 | u _ _ _ ih=>simp[ih]
section
variable {c:Cx} {w:World}
mutual
def Wn.ok:∀{l k:List AV},Wn l k->∀{vs:List Value},CX c w l vs->CX c w k vs
 | _,_,.nil,_,hr=>hr
 | _,_,.r t,_,hr=>by cases hr with | cons h1 t1=>exact .cons h1 (t.ok t1)
 | _,_,.s h t,_,hr=>by
   subst h;cases hr with
   | cons h1 t1 =>
     refine .cons ?_ (t.ok t1);cases h1 with
     | KB _=>exact .KB trivial
     | Ni hn hc ho=>exact .Ni hn hc trivial
 | _,_,.d h e t,_,hr=>by
   subst e;cases hr with
   | cons h1 t1 =>
     refine .cons ?_ (t.ok t1);cases h1 with
     | KB _=>cases h;exact .KB trivial
     | Ni hn hc ho=>exact .Ni hn (h.okC hc) trivial
 | _,_,.g h t,_,hr=>by
   cases hr with
   | cons h1 t1 =>
     refine .cons ?_ (t.ok t1);cases h1 with
     | agg h2=>exact .agg (h.ok h2)
 | _,_,.u h t,_,hr=>by
   cases hr with
   | cons h1 t1 =>
     refine .cons ?_ (t.ok t1);cases h1 with
     | C6 h2=>exact .C6 (h.ok h2)
def Wn.okC:∀{l k:List AV},Wn l k->∀{g o:Nat},Bk c w g o l->Bk c w g o k
 | _,_,.nil,_,_,hr=>hr
 | _,_,.r t,_,_,hr=>by cases hr with | cons hv h1 t1=>exact .cons hv h1 (t.okC t1)
 | _,_,.s h t,_,_,hr=>by
   subst h;cases hr with
   | cons hv h1 t1 =>
     refine .cons hv ?_ (t.okC t1);cases h1 with
     | KB _=>exact .KB trivial
     | Ni hn hc ho=>exact .Ni hn hc trivial
 | _,_,.d h e t,_,_,hr=>by
   subst e;cases hr with
   | cons hv h1 t1 =>
     refine .cons hv ?_ (t.okC t1);cases h1 with
     | KB _=>cases h;exact .KB trivial
     | Ni hn hc ho=>exact .Ni hn (h.okC hc) trivial
 | _,_,.g h t,_,_,hr=>by
   cases hr with
   | cons hv h1 t1 =>
     refine .cons hv ?_ (t.okC t1);cases h1 with
     | agg h2=>exact .agg (h.ok h2)
 | _,_,.u h t,_,_,hr=>by
   cases hr with
   | cons hv h1 t1 =>
     refine .cons hv ?_ (t.okC t1);cases h1 with
     | C6 h2=>exact .C6 (h.ok h2)
end
end
def Wn.WT{a b c d:List AV}(h:Wn a b)(k:Wn c d):Wn (a++c) (b++d):=by
 induction a generalizing b with
 | nil=>cases h;exact k
 | cons x a ih =>
   cases h with
   | r t=>exact .r (ih t)
   | s h t=>exact .s h (ih t)
   | d h e t=>exact .d h e (ih t)
   | g h t=>exact .g h (ih t)
   | u h t=>exact .u h (ih t)
def Rp.wnC{c:Cx}{w:World}{o:Own}{q:Nat}{cs ds:List AV}{u:Value}(h:Wn cs ds)(hr:Rp c w (.sl o q cs) u):Rp c w (.sl o q ds) u:=by
 cases hr with
 | KB h0=>cases h;exact .KB h0
 | Ni hn hc ho=>exact .Ni hn (h.okC hc) (by rw[<- h.len];exact ho)
def Fits.wn{n m:Nat}{a b:AV}(h:Wn [a] [b])(hp:AI.plain b=true):Fits n m a b:=λc w v hr=>by
 have:=h.ok (.cons hr .nil);cases this with
 | cons h1 _=>exact Fits.plain hp c w v h1
section
variable {P:Program} {G:Bc}
def C9(hm:P.follows .mixedOrders=true)(hG:∀g cs,G g=some cs->BS cs=true){f:FuncId}{args:List AV}{v:AV}(h:WC P G (XS P G) H0 f args s0 (λr _=>∃a,r=.ret a/\Fits 0 0 a v))(hp:BS args=true)(hv:plain v=true):Pure P G f args v:=by
 obtain⟨r,s',hj,a,rfl,hf⟩:=h;have hS:=sound (TQ hm) hj;intro s cx w vs hs IJ
 have NE:∀g i x,PW cx w g i x->PW ⟨w.heap.size,[],[],cx.xW⟩ w g i x:=by
   intro g i x hx;refine⟨hx.1,λK0=>?_,hx.2.2⟩;rcases K0 with K0 | ⟨r,n,cap,sz,hr,_⟩ | K0
   cases K0;simp at hr;exact hx.2.1 K0
 have GC:St G ⟨w.heap.size,[],[],cx.xW⟩ w s0 :=
   ⟨rfl,trivial,(λi j g h1=>by simp at h1),(λg hg=>by cases hg),(λid g b h1=>by simp at h1),rfl,(λr g n cap sz hr=>by simp at hr),(λr n hr=>by cases hr),(λg hg=>by cases hg),(λg i hb=>hs.fU hb),(λr r' g n cap sz n' CC PX hr=>by simp at hr),(λg cs hg=>Bk.plain NE (hG g cs hg) (hs.PB g cs hg)),Nat.le_refl _⟩
 refine(hS _ w vs GC (CX.plain NE hp IJ)).mono ?_;rintro e w' ⟨c',hx,_,u,rfl,hu⟩;have ZU:=hx.below;obtain⟨x2,XE⟩:=hs.same (w':=w') ⟨ZU.os,ZU.tape,ZU.output,ZU.size,λk hk _=>ZU.block k hk⟩;refine⟨cx,x2,XE,u,rfl,Rp.plain (c:=c'.upto 0 0) (λg i x hvv=>⟨hvv.1,λK0=>hvv.2.1 (.inr (.inr ?_)),hvv.2.2⟩) hv (hf _ _ _ hu)⟩;show c'.bad g i;rw[hx.bad];exact K0
def KW(P:Program)(fn:Func)(m:Nat)(Q:AX->List AV->AS->Prop)(v:AV):Prop:=∀a s2,Fits 0 0 a v->R4 P fn m Q a s2
def KW.body{fn:Func}{m:Nat}{v:AV}:KW P fn m (UJ P fn m (λr _=>∃a,r=.ret a/\Fits 0 0 a v)) v:=λa _ h=>.body ⟨a,rfl,h⟩
def KW.outer{fn:Func}{m id:Nat}{ks:List KI}{Q:AX->List AV->AS->Prop}{v:AV}(h:KW P fn m Q v):KW P fn m (EV id (Ej P G ks Q)) v:=λa s2 hf=>(h a s2 hf).outer
def Tc{δ J:Type}(Q:AX->List AV->AS->Prop)(id:Nat)(F:δ->J->List AV)(S:δ->J->AS)(Ok:J->Prop)(d:δ):Prop:=∀j,Ok j->Q (.exit id) (F d j) (S d j)
def agl(P:Program)(fn:Func):HR->Option (List Cd×AV)
 | some (.fin .ret,[],cd,fr,s)=>(match JO P s fn fr with
   | some v=>some (cd,v)
   | none=>none)
 | _=>none
def Az{r:HR}{X:Prop}{Q:AX->List AV->AS->Prop}{v w:AV}(fn:Func)(m:Nat){l:List (PC P G)}(R:VD P G l Q r X)(h:agl P fn r=some (nF l,v))(k:KW P fn m Q w)(hf:Fits 0 0 v w):X:=by
 unfold agl at h;split at h;rename_i cd Ct s';split at h;rename_i v' hv;simp only[Option.some.injEq,Prod.mk.injEq] at h;obtain⟨rfl,rfl⟩:=h;exact R _ _ _ _ rfl (PH l) (k _ _ hf _ _ hv rfl);cases h;cases h
def KW.Gi{fn:Func}{m:Nat}{L:Code}{s0:AS}{Q:AX->List AV->AS->Prop}{v:AV}(h:KW P fn m Q v):KW P fn m (Ui P G L s0 Q) v:=h
def MN{δ ρ β:Type}(k:δ->Option β)(kr:ρ->Option β):δ⊕ρ->Option β
 | .inl d=>k d
 | .inr v=>kr v
def pk:PC P G:=⟨.k,[],trivial⟩
def pb{B b:Bool}(h:B=b):PC P G:=⟨.b b,[.eqb B b],⟨h,trivial⟩⟩
def pn{B b:Bool}(h:B=b):PC P G:=⟨.b (!b),[.eqb (!B) (!b)],⟨by show(!B)=(!b);rw[h],trivial⟩⟩
def ake{i:Nat}(h:i < 9223372036854775807):Nu .i64 (aaf ((i:Nat):Int) 1)=((i+1:Nat):Int):=by
 rw[Vu,dA];have:=ad3 (i:=i+1) (by omega);rw[<- this];rfl
def aqI(i:Nat)(h:i < 9223372036854775807):PC P G:=⟨.i ((i+1:Nat):Int),[.eqi (Nu .i64 (aaf ((i:Nat):Int) 1)) ((i+1:Nat):Int)],⟨ake h,trivial⟩⟩
def AM{f:FuncId}{args:List AV}{v:AV}(h:Pure P G f args v):PC P G:=⟨.w v,[.pur f args v],⟨h,trivial⟩⟩
def Ix{f:FuncId}{args Wl:List AV}{v:AV}(w:Wn args Wl)(h:Pure P G f Wl v):PC P G:=⟨.w v,[.pur f args v],⟨λs cx wd vs hs ha=>h s cx wd vs hs (w.ok ha),trivial⟩⟩
def IV{t:TypeId}{a b v:AV}(h:DE P t a b=some v):PC P G:=⟨.w v,[.idx t a b v],⟨h,trivial⟩⟩
def Sz{t:TypeId}{a b v:AV}(h:Lz P t a b=some v):PC P G:=⟨.w v,[.ix t a b v],⟨h,trivial⟩⟩
def KH{op:BinOp}{t:TypeId}{x y:Operand}{a b v:AV}(h:Ly P op t x y a b=some v):PC P G:=⟨.w v,[.bin op t x y a b v],⟨h,trivial⟩⟩
def Oz{t:TypeId}{a:AV}{l h m:Option AV}{v:AV}(e:KX P t a l h m=some v):PC P G:=⟨.o v,[.sli t a l h m v],⟨e,trivial⟩⟩
def BC(a b:Int):Int:=Nu .i64 (aaf a b)
def L3(a b:Int):Int:=Nu .i64 (fX a b)
def BU(a b:Int):Int:=Nu .i64 (a*b)
def Hc{α:Type}(l:List α)(z:Int):Option α:=if 0<=z then l[z.toNat]? else none
structure Rx{α:Type}(f:α->List AV)(C:List α->List AV)(k:Nat):Prop where
 eq:∀l,C l=rows f l
 len:∀x,(f x).length=k
 pl:∀x,BS (f x)=true
def Rx.WT{α:Type}{f:α->List AV}{C:List α->List AV}{k:Nat}(h:Rx f C k)(l m:List α):C (l++m)=C l++C m:=by rw[h.eq,h.eq,h.eq,WI]
def Rx.cons{α:Type}{f:α->List AV}{C:List α->List AV}{k:Nat}(h:Rx f C k)(x:α)(m:List α):C (x::m)=f x++C m:=by rw[h.eq,h.eq,I8]
def Rx.A1{α:Type}{f:α->List AV}{C:List α->List AV}{k:Nat}(h:Rx f C k)(l:List α):BS (C l)=true:=by rw[h.eq];exact qI λx _=>h.pl x
def Rx.IH{α:Type}{f:α->List AV}{C:List α->List AV}{k:Nat}(h:Rx f C k)(l:List α):plain (.sl .lost l.length (C l))=true:=by simp only[plain,h.A1];rfl
def Rx.Cw{α:Type}{f:α->List AV}{C:List α->List AV}{k:Nat}(h:Rx f C k)(x:α):plain (.agg (f x))=true:=h.pl x
def Rx.ix{α:Type}{f:α->List AV}{C:List α->List AV}{k:Nat}(h:Rx f C k){t elem:TypeId}(hu:P.underlying t=some (.slice elem))(hs:(P.info? elem).map (·.size)=some k)(own:Own){l:List α}{i:Nat}{x:α}(hx:l[i]?=some x):DE P t (.sl own l.length (C l)) (.sc (.int .i64 ((i:Nat):Int)))=some (.el (f x++C (l.drop (i+1)))):=by
 cases hi:P.info? elem with
 | none=>rw[hi] at hs;cases hs
 | some e =>
   rw[hi] at hs;rw[h.eq,h.eq];exact pD hu hi (by simpa using hs) h.len hx
def Rx.ixz{α:Type}{f:α->List AV}{C:List α->List AV}{k:Nat}(h:Rx f C k){t elem:TypeId}(hu:P.underlying t=some (.slice elem))(hs:(P.info? elem).map (·.size)=some k)(own:Own){l:List α}{z:Int}{x:α}(hx:Hc l z=some x):DE P t (.sl own l.length (C l)) (.sc (.int .i64 z))=some (.el (f x++C (l.drop (z.toNat+1)))):=by
 unfold Hc at hx;split at hx;rename_i hz;have:=h.ix hu hs own hx;rwa[Int.toNat_of_nonneg hz] at this;cases hx
def Rx.wn{α:Type}{f:α->List AV}{C:List α->List AV}{k:Nat}(h:Rx f C k)(m:List α){a:List AV}(w:Wn a (rows f m)):Wn a (C m):=by rw[h.eq];exact w
def WJ{α:Type}{f:α->List AV}{k:Nat}(hf:∀x,(f x).length=k)(l:List α)(i:Nat):(rows f l).drop (i*k)=rows f (l.drop i):=by
 induction l generalizing i with
 | nil=>simp[rows]
 | cons x l ih =>
   cases i with
   | zero=>simp
   | succ i =>
     rw[I8,List.drop_append,hf x,List.drop_eq_nil_of_le (by rw[hf x,Nat.add_mul];omega),List.nil_append,List.drop_succ_cons,<- ih i];congr 1;rw[Nat.add_mul];omega
def WK{α:Type}{f:α->List AV}{k:Nat}(hf:∀x,(f x).length=k)(l:List α)(i:Nat):(rows f l).take (i*k)=rows f (l.take i):=by
 induction l generalizing i with
 | nil=>simp[rows]
 | cons x l ih =>
   cases i with
   | zero=>simp[rows]
   | succ i =>
     rw[I8,List.take_append,hf x,List.take_of_length_le (by rw[hf x,Nat.add_mul];omega),List.take_succ_cons,I8,<- ih i];congr 2;rw[Nat.add_mul];omega
def Rx.sub{α:Type}{f:α->List AV}{C:List α->List AV}{k:Nat}(h:Rx f C k){t elem:TypeId}(hu:P.underlying t=some (.slice elem))(hs:(P.info? elem).map (·.size)=some k)(l q:Nat){s:List α}(h1:l<=q)(h2:q<=s.length)(lo hi:Option AV)(e1:M7 0 lo=some l)(e2:M7 s.length hi=some q) :
   KX P t (.sl .lost s.length (C s)) lo hi none=some (.sl .lost ((s.drop l).take (q - l)).length (C ((s.drop l).take (q - l)))):=by
 cases NC:P.info? elem with
 | none=>rw[NC] at hs;cases hs
 | some e =>
   rw[NC] at hs;have hk:e.size=k:=by simpa using hs
   unfold KX;simp only[hu,NC,e1,e2,hk];rw[if_pos ⟨h1,h2,by rw[h.eq,SC h.len]⟩]
   have e3:(if l=0/\q=s.length then Own.lost else if q=s.length/\Own.lost=.full then .full else .lost)=.lost:=by
     split;rfl;split;rename_i hq;exact absurd hq.2 (by decide);rfl
   rw[e3,h.eq,h.eq,WJ h.len,WK h.len];congr 2;simp;omega
def evt{β:Type}(f:Nat->Option β):Option β:=open Classical in if h:∃y,∃n0:Nat,∀n,n0<=n->f n=some y then some (Classical.choose h) else none
def vX{β:Type}{f:Nat->Option β}{y:β}(h:evt f=some y):∃n,f n=some y:=by
 unfold evt at h;split at h;rename_i hx;obtain⟨n0,hn⟩:=Classical.choose_spec hx;rw[Option.some.inj h] at hn;exact⟨n0,hn n0 (Nat.le_refl _)⟩;cases h
def Yp{β:Type}{f:Nat->Option β}{y:β}(n0:Nat)(h:∀n,n0<=n->f n=some y):evt f=some y:=by
 unfold evt;have hx:∃y,∃n0:Nat,∀n,n0<=n->f n=some y:=⟨y,n0,h⟩;rw[dif_pos hx];obtain⟨n1,hn⟩:=Classical.choose_spec hx;have h1:=h (max n0 n1) (Nat.le_max_left _ _);have h2:=hn (max n0 n1) (Nat.le_max_right _ _);rw[h1] at h2;rw[Option.some.inj h2]
def ML{β:Type}(n:Nat)(x:Option β):Option β:=if n<=100000000 then x else none
def acb{β:Type}{n:Nat}{x:Option β}{r:β}(h:ML n x=some r):n<=100000000/\x=some r:=by
 unfold ML at h;split at h;rename_i h1;exact⟨h1,h⟩;cases h
def Rx.ZT{α:Type}{f:α->List AV}{C:List α->List AV}{k:Nat}(h:Rx f C k){t tx e e2 by':Nat}(hu:P.underlying t=some (.slice e))(hux:P.underlying tx=some (.slice e2))(hi:(P.info? e).map (λi=>(i.size,i.bytes,i.zero.map (·.cells.size)))=some (k,by',some k))(hk:0 < k)(hb:by'<=10000)
   (own:Own) (l m:List α) {o:Own} {n:Nat} {ns:List AV} (hn:Wn ns (C m)) (oU:n=m.length) (ho:ns.all one=true) (hm:m.length≠0) (hlen:l.length+m.length<=100000000):Cd.ok P G (.ZT t tx own l.length (C l) (.sl o n ns) k (l++m).length (C (l++m))):=by
 subst oU;cases hq:P.info? e with
 | none=>rw[hq] at hi;cases hi
 | some i =>
   rw[hq] at hi;simp only[Option.map_some,Option.some.injEq,Prod.mk.injEq] at hi;obtain⟨h1,h2,h3⟩:=hi;cases hz:i.zero with
   | none=>rw[hz] at h3;cases h3
   | some z =>
     rw[hz] at h3;simp only[Option.map_some,Option.some.injEq] at h3;intro s QW;have Xp:ns.length=m.length*k:=by rw[hn.len,h.eq,SC h.len]
     have wH:(C l).length=l.length*k:=by rw[h.eq,SC h.len]
     refine⟨C l++ns,?_,λc w u o' hr=>?_⟩
     have hs:iK P s i.size tx (.sl o m.length ns)=some (m.length,ns):=by
       unfold iK;rw[hux,h1];simp only[Xp,if_true]
     unfold Mp;simp only[hu,hq,hz];rw[if_pos ⟨by rw[h3,h1],by omega⟩,hs];simp only
     have sC:(l.length+m.length)*i.bytes<=140737488355328:=by
       rw[h2];exact Nat.le_trans (Nat.mul_le_mul hlen hb) (by decide)
     rw[if_pos ⟨by rw[wH,h1],ho,sC,by omega⟩,if_neg hm,h1,if_pos QW,List.length_append];rw[h.WT];exact Rp.wnC (Wn.WT (Wn.refl (C l)) hn) hr
def Ra{t tx:TypeId}{own:Own}{n:Nat}{cs:List AV}{b:AV}{sz k:Nat}{rN:List AV}(h:Cd.ok P G (.ZT t tx own n cs b sz k rN)):PC P G :=
 match own with
 | .row r z=>⟨.g sz k rN,[.ZT t tx (.row r z) n cs b sz k rN,.eqn n n],⟨h,rfl,trivial⟩⟩
 | .full=>⟨.g sz k rN,[.ZT t tx .full n cs b sz k rN],⟨h,trivial⟩⟩
 | _=>⟨.g sz k rN,[],trivial⟩
def A1{a:AV}{l:List AV}(h:plain a=true)(t:BS l=true):BS (a::l)=true:=by simp only[BS,h,t];rfl
def aiv{a b:List AV}(ha:BS a=true)(hb:BS b=true):BS (a++b)=true:=by
 induction a with
 | nil=>exact hb
 | cons x a ih =>
   simp only[BS,Bool.and_eq_true,List.cons_append] at ha ⊢;exact⟨ha.1,ih ha.2⟩
def KC{n m:Nat}{a:AV}{l:List AV}(h:under n m a=true)(t:FI n m l=true):FI n m (a::l)=true:=by simp only[FI,h,t];rfl
end
end AI
namespace AI
open Go Go.RowKit
def Kg{P:Program}{α β:Type}(m:Sem α)(f:α->Sem β):pv P (m >>= f)=(pv P m).bind λa=>pv P (f a):=by
 show pv P (m.bind f)=_
 induction m with
 | pure a=>rfl
 | program k ih=>exact ih P
 | mark _ k ih=>exact ih
 | _=>rfl
def NM{P:Program}{α:Type}(a:α):pv P (pure a:Sem α)=some a:=rfl
def Ua{P:Program}:pv P program=some P:=rfl
def KJ{P:Program}{t:TypeId}{d:TypeDesc}(h:P.underlying t=some d):pv P (underlying t)=some d:=by
 unfold underlying;rw[Kg,Ua];simp only[Option.bind_some,h];rfl
def akO{P:Program}{α:Type}(c:Prop)[Decidable c](a b:Sem α):pv P (if c then a else b)=if c then pv P a else pv P b:=by split<;>rfl
def Vc{P:Program}(d:Nat)(t:TypeId)(xs ys:Array Value)(ht:P.underlying t=some (.struct (P.fieldsOf t)))(hp:P.stoodInHeld t=false) :
   pv P (Op.equalIn (d+1) t (.agg xs) (.agg ys))=pv P (Op.eqFields d xs ys (P.fieldsOf t).toList):=by
 simp only[Op.equalIn,Kg,KJ ht,Option.bind_some,Ua,hp,Bool.false_eq_true,if_false];rw[<- Array.forIn_toList];generalize (P.fieldsOf t).toList=fs;clear ht
 induction fs with
 | nil=>simp[Op.eqFields,NM]
 | cons f fs ih =>
   simp only[List.forIn_cons,Op.eqFields,Kg,akO];split;generalize pv P (part f.type xs f.offset)=r1;cases r1 with
   | none=>simp
   | some a =>
     simp only[Option.bind_some];generalize pv P (part f.type ys f.offset)=r2;cases r2 with
     | none=>simp
     | some b =>
       simp only[Option.bind_some];generalize pv P (Op.equalIn d f.type a b)=r3;cases r3 with
       | none=>simp
       | some r =>
         cases r;simp[NM];simp only[Option.bind_some,Bool.not_true,Bool.false_eq_true,if_false,NM];exact ih
   simp only[NM,Option.bind_some];exact ih
def aga{P:Program}{t:TypeId}{k:IntKind}(h:P.underlying t=some (.int k))(cs:Array Value)(off:Nat){v:Value}(hv:cs[off]?=some v):pv P (part t cs off)=some v:=by
 unfold part isAgg;simp[Kg,KJ h,NM,hv]
def Y6{P:Program}(d:Nat){t:TypeId}{k k':IntKind}(a b:Int)(h:P.underlying t=some (.int k')):pv P (Op.equalIn (d+1) t (.int k a) (.int k b))=some (a == b):=by
 simp[Op.equalIn,Kg,KJ h,NM]
def kU{P:Program}(op:BinOp)(t:TypeId)(x y:Operand)(xs ys:Array Value)(hm:P.eqGuardType P.depth t=false):pv P (eqGuard op t x y (.agg xs) (.agg ys))=some ():=by
 cases op<;>simp[eqGuard,Kg,Ua,hm,NM]
def Sj(P:Program)(t:TypeId):Nat:=match P.underlying t with
 | some (.int _)=>1
 | some .string=>2
 | _=>0
def fEq:Value->Value->Option Bool
 | .int k a,.int k' b=>if k=k' then some (a == b) else none
 | .string a,.string b=>some (a == b)
 | _,_=>none
def ZP:List Value->List Value->Option Bool
 | [],[]=>some true
 | a::as,b::bs=>(fEq a b).bind λr=>(match r with | true=>ZP as bs | false=>some false)
 | _,_=>none
def kV{P:Program}{t:TypeId}(h:Sj P t≠0)(cs:Array Value)(off:Nat){v:Value}(hv:cs[off]?=some v):pv P (part t cs off)=some v:=by
 unfold Sj at h;split at h;rename_i h1;exact aga h1 cs off hv;rename_i h1;unfold part isAgg;simp[Kg,KJ h1,NM,hv];exact absurd rfl h
def akN{P:Program}(d:Nat){t:TypeId}{a b:Value}{r:Bool}(hk:(∃k n m,a=.int k n/\b=.int k m/\Sj P t=1)\/(∃x y,a=.string x/\b=.string y/\Sj P t=2))(h:fEq a b=some r):pv P (Op.equalIn (d+1) t a b)=some r:=by
 rcases hk with ⟨k,n,m,rfl,rfl,hk⟩ | ⟨x,y,rfl,rfl,hk⟩
 unfold Sj at hk;split at hk;rename_i h1;simp only[fEq,if_true] at h;rw[Y6 d n m h1];exact h;cases hk;cases hk;unfold Sj at hk;split at hk;cases hk;rename_i h1;simp only[fEq] at h;rw[<- h];simp[Op.equalIn,Kg,KJ h1,NM];cases hk
def jF:List Nat->List Value->Prop
 | [],[]=>True
 | k::ks,v::vs=>((∃n,v=.int .i64 n/\k=1)\/(∃x,v=.string x/\k=2))/\jF ks vs
 | _,_=>False
def xF{P:Program}(d:Nat):∀(fs:List Field) (off:Nat) (ks:List Nat) (xs ys:List Value) (us vs:List Value) (r:Bool),fs.map (λf=>Sj P f.type)=ks->(∀(i:Nat) f,fs[i]?=some f->f.name≠"_"/\f.offset=off+i)->xs.drop off=us->ys.drop off=vs->jF ks us->jF ks vs->ZP us vs=some r->pv P (Op.eqFields (d+1) xs.toArray ys.toArray fs)=some r:=by
 intro fs
 induction fs with
 | nil =>
   intro off ks xs ys us vs r hJ _ hx hy h1 h2 h;cases ks with
   | cons=>cases hJ
   | nil =>
     cases us<;>cases vs<;>simp only[jF,ZP] at h1 h2 h
     rw[<- h];rfl
 | cons f fs ih =>
   intro off ks xs ys us vs r hJ hf hx hy h1 h2 h;cases ks with
   | nil=>cases hJ
   | cons k ks =>
     cases us with
     | nil=>cases h1
     | cons u us =>
       cases vs with
       | nil=>cases h2
       | cons v vs =>
         simp only[List.map_cons,List.cons.injEq] at hJ;obtain⟨hk,hJ⟩:=hJ;obtain⟨hn,ho⟩:=hf 0 f rfl;rw[Nat.add_zero] at ho;have hxu:xs.toArray[off]?=some u:=by rw[List.getElem?_toArray,<- List.head?_drop,hx];rfl
         have hyv:ys.toArray[off]?=some v:=by rw[List.getElem?_toArray,<- List.head?_drop,hy];rfl
         have hk0:Sj P f.type≠0:=by
           rw[hk];rcases h1.1 with ⟨_,_,e⟩ | ⟨_,_,e⟩<;>omega
         have hkk:(∃k n m,u=.int k n/\v=.int k m/\Sj P f.type=1)\/(∃x y,u=.string x/\v=.string y/\Sj P f.type=2):=by
           rw[hk];rcases h1.1 with ⟨n,e1,e2⟩ | ⟨n,e1,e2⟩<;>rcases h2.1 with ⟨m,e3,e4⟩ | ⟨m,e3,e4⟩
           exact .inl ⟨_,n,m,e1,e3,e2⟩;omega;omega;exact .inr ⟨n,m,e1,e3,e2⟩
         simp only[ZP] at h;cases hq:fEq u v with
         | none=>rw[hq] at h;cases h
         | some q =>
           rw[hq] at h;simp only[Op.eqFields,hn,ne_eq,not_false_eq_true,if_true,ho];simp only[Kg,kV hk0 xs.toArray off hxu,kV hk0 ys.toArray off hyv,Option.bind_some,akN d hkk hq];cases q with
           | false =>
             have:r=false:=by simpa using h.symm
             subst this;rfl
           | true =>
             have ih:=ih (off+1) ks xs ys us vs r hJ (λi f' hi=>by
               have:=hf (i+1) f' (by simpa using hi)
               exact⟨this.1,by rw[this.2];omega⟩) (by rw[<- List.tail_drop,hx];rfl) (by rw[<- List.tail_drop,hy];rfl) h1.2 h2.2 (by simpa using h)
             simpa using ih
structure Flat(P:Program)(t:TypeId)(ks:List Nat):Prop where
 st:P.underlying t=some (.struct (P.fieldsOf t))
 hp:P.stoodInHeld t=false
 hm:P.eqGuardType P.depth t=false
 kd:(P.fieldsOf t).toList.map (λf=>Sj P f.type)=ks
 nm:(P.fieldsOf t).toList.map (λf=>decide (f.name≠"_"))=List.replicate ks.length true
 of:(P.fieldsOf t).toList.map (λf=>f.offset)=List.range ks.length
def yG(vs:List Value):Pm (vs.map .sc)=some vs:=by
 induction vs with
 | nil=>rfl
 | cons v vs ih=>simp[Pm,Zp,ih]
def Flat.pv{P:Program}{t:TypeId}{ks:List Nat}(h:Flat P t ks){us vs:List Value}{r:Bool}(h1:jF ks us)(h2:jF ks vs)(h3:ZP us vs=some r):AI.pv P (Op.equalIn (9998+1+1) t (.agg us.toArray) (.agg vs.toArray))=some r:=by
 rw[Vc _ _ _ _ h.st h.hp];refine xF 9998 _ 0 ks us vs us vs r h.kd (λi f hf=>?_) rfl rfl h1 h2 h3
 have hl:i < ks.length:=by
   have:=(List.getElem?_eq_some_iff.1 hf).1;have h5:=congrArg List.length h.kd;simp at h5 this;omega
 have a1:=congrArg (λl=>l[i]?) h.nm;have a2:=congrArg (λl=>l[i]?) h.of;simp only[List.getElem?_map,hf,Option.map_some,List.getElem?_replicate,hl,if_true,Option.some.injEq,decide_eq_true_eq] at a1;simp only[List.getElem?_map,hf,Option.map_some,List.getElem?_range hl,Option.some.injEq] at a2;exact⟨a1,by omega⟩
def Flat.bin{P:Program}{t:TypeId}{ks:List Nat}(h:Flat P t ks){us vs:List Value}{r:Bool}(h1:jF ks us)(h2:jF ks vs)(h3:ZP us vs=some r)(x y:Operand) :
   Ly P .eql t x y (.agg (us.map .sc)) (.agg (vs.map .sc))=some (.sc (.bool r))/\Ly P .neq t x y (.agg (us.map .sc)) (.agg (vs.map .sc))=some (.sc (.bool (!r))):=by
 have ht:∀l:List Value,Vm (.agg (l.map .sc))=some (.agg l.toArray):=λl=>by simp only[Vm,yG,Option.map_some]
 have hv:=h.pv h1 h2 h3
 have e1:AI.pv P (do eqGuard .eql t x y (.agg us.toArray) (.agg vs.toArray);binOp .eql t (.agg us.toArray) (.agg vs.toArray))=some (.bool r):=by
   rw[Kg,kU _ _ _ _ _ _ h.hm];simp only[Option.bind_some,binOp,Kg,Op.equal,Op.maxDepth];rw[show(10000:Nat)=9998+1+1 from rfl,hv];rfl
 have e2:AI.pv P (do eqGuard .neq t x y (.agg us.toArray) (.agg vs.toArray);binOp .neq t (.agg us.toArray) (.agg vs.toArray))=some (.bool (!r)):=by
   rw[Kg,kU _ _ _ _ _ _ h.hm];simp only[Option.bind_some,binOp,Kg,Op.equal,Op.maxDepth];rw[show(10000:Nat)=9998+1+1 from rfl,hv];rfl
 refine⟨?_,?_⟩;show Tp _ _ _ _ _ (.agg _) (.agg _)=_;unfold Tp;simp only[ht,e1,Option.bind_some];rfl;show Tp _ _ _ _ _ (.agg _) (.agg _)=_;unfold Tp;simp only[ht,e2,Option.bind_some];rfl
def alq(x y:Int):Int:=if y > x then y else x
def alr(x y:Int):Int:=if y < x then y else x
end AI
namespace AI
open Go Go.RowKit
mutual
inductive Rn(k j:Nat)(ρ σ:Nat->Nat):AV->AV->Prop where
 | pl {a:AV} (h:plain a=true):Rn k j ρ σ a a
 | ptr {i off:Nat} (h:i < k):Rn k j ρ σ (.ptr i off) (.ptr (ρ i) off)
 | mp {i:Nat} (h:i < k):Rn k j ρ σ (.mp i) (.mp (ρ i))
 | Og {i off n:Nat} (h:i < k):Rn k j ρ σ (.Og i off n) (.Og (ρ i) off n)
 | row {r sz n:Nat} {cs:List AV} (h:r < j) (hp:BS cs=true):Rn k j ρ σ (.sl (.row r sz) n cs) (.sl (.row (σ r) sz) n cs)
 | agg {cs ds:List AV} (h:UD k j ρ σ cs ds):Rn k j ρ σ (.agg cs) (.agg ds)
 | C6 {cs ds:List AV} (h:UD k j ρ σ cs ds):Rn k j ρ σ (.C6 cs) (.C6 ds)
 | fn {f:Fn} {a a' b b':List AV} (h1:UD k j ρ σ a a') (h2:UD k j ρ σ b b'):Rn k j ρ σ (.fn f a b) (.fn f a' b')
inductive UD(k j:Nat)(ρ σ:Nat->Nat):List AV->List AV->Prop where
 | nil:UD k j ρ σ [] []
 | cons {a b:AV} {l m:List AV} (h:Rn k j ρ σ a b) (t:UD k j ρ σ l m):UD k j ρ σ (a::l) (b::m)
end
inductive u5(k j:Nat)(ρ σ:Nat->Nat):Bo->Bo->Prop where
 | cells {cs ds:List AV} (h:UD k j ρ σ cs ds):u5 k j ρ σ (.cells cs) (.cells ds)
 | map {es:List (Value×AV×Nat)} {cl:Nat} (h:∀e∈es,plain e.2.1=true):u5 k j ρ σ (.map es cl) (.map es cl)
def UD.pl{k j:Nat}{ρ σ:Nat->Nat}:∀{l:List AV},BS l=true->UD k j ρ σ l l
 | [],_=>.nil
 | a::l,h=>by
   simp only[BS,Bool.and_eq_true] at h;exact .cons (.pl h.1) (UD.pl h.2)
section
variable {c c':Cx} {w w':World} {k j:Nat} {ρ σ:Nat->Nat}
structure Dn(k j:Nat)(ρ σ:Nat->Nat)(c:Cx)(w:World)(c0:Cx)(w0:World):Prop where
 gI:∀g i v,PW c w g i v->PW c0 w0 g i v
 DD:∀i g,i < k->c.DD[ρ i]?=some (some g)->c0.DD[i]?=some (some g)
 rows:∀r,r < j->∃x,c.rows[σ r]?=some x/\c0.rows[r]?=some x
structure Up(k j:Nat)(ρ σ:Nat->Nat)(c0:Cx)(w0:World)(c:Cx)(w:World):Prop where
 gI:∀g i v,PW c0 w0 g i v->PW c w g i v
 DD:∀i g,i < k->c0.DD[i]?=some (some g)->c.DD[ρ i]?=some (some g)
 rows:∀r,r < j->∃x,c.rows[σ r]?=some x/\c0.rows[r]?=some x
mutual
def Rn.down(d:Dn k j ρ σ c w c' w'):∀{a b:AV} {v:Value},Rn k j ρ σ a b->Rp c w b v->Rp c' w' a v:=by
 intro a b v hn h;cases hn with
 | pl hp=>exact h.plain d.gI hp
 | ptr hi=>cases h with | ptr h1=>exact .ptr (d.DD _ _ hi h1)
 | mp hi=>cases h with | mp h1=>exact .mp (d.DD _ _ hi h1)
 | Og hi=>cases h with | Og hn h1=>exact .Og hn (d.DD _ _ hi h1)
 | @row r sz n cs hr hp =>
   obtain⟨x,hx,sM⟩:=d.rows r hr;have hl:=(List.getElem?_eq_some_iff.1 sM).1;cases h with
   | KB h0=>exact .KB ⟨h0.1,hl⟩
   | Ni hn hc ho =>
     refine .Ni hn (hc.plain d.gI hp) ⟨ho.1,ho.2.1,hl,λe=>ho.2.2.2.1 ?_,λg' n' CC PX e=>ho.2.2.2.2 g' n' CC PX ?_⟩;rw[hx,<- sM];exact e;rw[hx,<- sM];exact e
 | agg h1=>cases h with | agg h2=>exact .agg (UD.down d h1 h2)
 | C6 h1=>cases h with | C6 h2=>exact .C6 (UD.down d h1 h2)
 | fn h1 h2=>cases h with | fn h3 h4=>exact .fn (UD.down d h1 h3) (UD.down d h2 h4)
def UD.down(d:Dn k j ρ σ c w c' w'):∀{a b:List AV} {v:List Value},UD k j ρ σ a b->CX c w b v->CX c' w' a v:=by
 intro a b v hn h;cases hn with
 | nil=>cases h;exact .nil
 | cons h1 t=>cases h with | cons h2 t2=>exact .cons (Rn.down d h1 h2) (UD.down d t t2)
end
mutual
def Rn.up(d:Up k j ρ σ c w c' w'):∀{a b:AV} {v:Value},Rn k j ρ σ a b->Rp c w a v->Rp c' w' b v:=by
 intro a b v hn h;cases hn with
 | pl hp=>exact h.plain d.gI hp
 | ptr hi=>cases h with | ptr h1=>exact .ptr (d.DD _ _ hi h1)
 | mp hi=>cases h with | mp h1=>exact .mp (d.DD _ _ hi h1)
 | Og hi=>cases h with | Og hn h1=>exact .Og hn (d.DD _ _ hi h1)
 | @row r sz n cs hr hp =>
   obtain⟨x,hx,sM⟩:=d.rows r hr;have hl:=(List.getElem?_eq_some_iff.1 hx).1;cases h with
   | KB h0=>exact .KB ⟨h0.1,hl⟩
   | Ni hn hc ho =>
     refine .Ni hn (hc.plain d.gI hp) ⟨ho.1,ho.2.1,hl,λe=>ho.2.2.2.1 ?_,λg' n' CC PX e=>ho.2.2.2.2 g' n' CC PX ?_⟩;rw[sM,<- hx];exact e;rw[sM,<- hx];exact e
 | agg h1=>cases h with | agg h2=>exact .agg (UD.up d h1 h2)
 | C6 h1=>cases h with | C6 h2=>exact .C6 (UD.up d h1 h2)
 | fn h1 h2=>cases h with | fn h3 h4=>exact .fn (UD.up d h1 h3) (UD.up d h2 h4)
def UD.up(d:Up k j ρ σ c w c' w'):∀{a b:List AV} {v:List Value},UD k j ρ σ a b->CX c w a v->CX c' w' b v:=by
 intro a b v hn h;cases hn with
 | nil=>cases h;exact .nil
 | cons h1 t=>cases h with | cons h2 t2=>exact .cons (Rn.up d h1 h2) (UD.up d t t2)
end
def KV.plain(hv:∀g i v,PW c w g i v->PW c' w' g i v):∀{es:List (Value×AV×Nat)} {fs:List MapEntry},(∀e∈es,AI.plain e.2.1=true)->KV c w es fs->KV c' w' es fs:=by
 intro es
 induction es with
 | nil=>intro fs _ h;cases h;exact .nil
 | cons e es ih =>
   intro fs hp h;cases h with | cons h1 t=>exact .cons (h1.plain hv (hp _ List.mem_cons_self)) (ih (λx hx=>hp x (List.mem_cons_of_mem _ hx)) t)
def u5.down(d:Dn k j ρ σ c w c' w'){a b:Bo}{o:Obj}(hn:u5 k j ρ σ a b)(h:FJ c w b o):FJ c' w' a o:=by
 cases hn with
 | cells h1=>cases h with | Ja ext h2=>exact .Ja ext (UD.down d h1 h2)
 | map hp=>cases h with | map h2=>exact .map (h2.plain d.gI hp)
def u5.up(d:Up k j ρ σ c w c' w'){a b:Bo}{o:Obj}(hn:u5 k j ρ σ a b)(h:FJ c w a o):FJ c' w' b o:=by
 cases hn with
 | cells h1=>cases h with | Ja ext h2=>exact .Ja ext (UD.up d h1 h2)
 | map hp=>cases h with | map h2=>exact .map (h2.plain d.gI hp)
end
structure Upd(k j:Nat)(ρ σ:Nat->Nat)(h2:List (Nat×Bo))(F2:List (Nat×Nat))(s s2:AS):Prop where
 nx:s2.nx=s.nx
 nr:s2.nr=s.nr
 desc:∀n,KD s.h n->KD s2.h n
 get:∀id b,s2.get id=some b->(∃i b0,i < k/\id=ρ i/\look i h2=some b0/\u5 k j ρ σ b0 b)\/((∀i,i < k->id≠ρ i)/\s.get id=some b)
 tok:∀q n,Fv q s2.F=some n->(∃r,r < j/\q=σ r/\Fv r F2=some n)\/((∀r,r < j->q≠σ r)/\Fv q s.F=some n)
def RnR(k j:Nat)(ρ σ:Nat->Nat):CR->CR->Prop
 | .ret v,.ret v'=>Rn k j ρ σ v v'
 | .JI v,.JI v'=>Rn k j ρ σ v v'
 | _,_=>False
def ajs{P:Program}{G:Bc}(hG:∀g cs,G g=some cs->BS cs=true){f:FuncId}{args X5:List AV}{r r':CR}{hm h2:List (Nat×Bo)}{k j:Nat}{Fm F2:List (Nat×Nat)}(h:Sound P G (.call f args ⟨hm,k,Fm,j⟩ r ⟨h2,k,F2,j⟩))(hd:KD hm k)
   (ρ σ:Nat->Nat) (apN:∀i i',i < k->i' < k->ρ i=ρ i'->i=i') (aih:∀i i',i < j->i' < j->σ i=σ i'->i=i') (IJ:UD k j ρ σ args X5)
   {s s2:AS} (eA:∀i b,i < k->look i hm=some b->∃b',s.get (ρ i)=some b'/\u5 k j ρ σ b b')
   (TV:∀cx w vs,St G cx w s->CX cx w X5 vs->∀i,i < k->∃g,cx.DD[ρ i]?=some (some g))
   (amC:∀q n,q < j->Fv q Fm=some n->Fv (σ q) s.F=some n) (amA:∀q,q < j->∃n,Fv q Fm=some n) (hFm:∀q n,Fv q Fm=some n->q < j)
   (hr:RnR k j ρ σ r r')
   (hu:Upd k j ρ σ h2 F2 s s2):Sound P G (.call f X5 s r' s2):=by
 intro cx w vs hs ha;have hph:=TV cx w vs hs ha
 have hg:∀i:Nat,∃g,i < k->cx.DD[ρ i]?=some (some g):=λi=>by
   by_cases hi:i < k;obtain⟨g,hg⟩:=hph i hi;exact⟨g,λ_=>hg⟩;exact⟨0,λh=>absurd h hi⟩
 obtain⟨gs,hgs⟩:=Classical.axiomOfChoice hg
 have hrw:∀q:Nat,∃x,q < j->cx.rows[σ q]?=some x:=λq=>by
   by_cases hq:q < j;obtain⟨n,hn⟩:=amA q hq;rcases hs.Kv _ _ (amC q n hq hn) with ⟨h1,_⟩ | ⟨g,cap,sz,h1⟩
   exact⟨_,λ_=>h1⟩;exact⟨_,λ_=>h1⟩;exact⟨.gone,λh=>absurd h hq⟩
 obtain⟨rw,hrw⟩:=Classical.axiomOfChoice hrw;have oT:∀i,i < k->some (gs i)∈cx.DD:=λi hi=>List.mem_of_getElem? (hgs i hi);have hgi:∀i i',i < k->i' < k->gs i=gs i'->i=i':=λi i' hi NC e=>apN i i' hi NC (hs.nodup _ _ _ (hgs i hi) (by rw[e];exact hgs i' NC));let K:Nat->Prop:=λq=>(∃i,i < k/\q=gs i)\/∃r n cap sz,r < j/\cx.rows[σ r]?=some (.R1 q n cap sz);let c0:Cx:=⟨0,(List.range k).map λi=>some (gs i),(List.range j).map rw,λq i=>¬K q/\cx.xW q i⟩
 have Ww:∀(i g:Nat),c0.DD[i]?=some (some g)↔i < k/\g=gs i:=by
   intro i g;show((List.range k).map λi=>some (gs i))[i]?=some (some g)↔_;rw[List.getElem?_map];by_cases hi:i < k;rw[List.getElem?_range hi];simp[hi,eq_comm];rw[List.getElem?_eq_none (by simp;omega)];simp[hi]
 have sH:∀g,some g∈c0.DD->∃i,i < k/\g=gs i:=by
   intro g WV;obtain⟨i,hi,e⟩:=List.mem_map.1 WV;exact⟨i,List.mem_range.1 hi,(Option.some.inj e).symm⟩
 have aQ:∀(q:Nat) x,c0.rows[q]?=some x->q < j/\cx.rows[σ q]?=some x:=by
   intro q x hx;have hx:((List.range j).map rw)[q]?=some x:=hx;have hl:=(List.getElem?_eq_some_iff.1 hx).1;simp at hl;rw[List.getElem?_map,List.getElem?_range hl] at hx;simp at hx;subst hx;exact⟨hl,hrw q hl⟩
 have oW:∀q,q < j->c0.rows[q]?=some (rw q):=by
   intro q hq;show((List.range j).map rw)[q]?=some (rw q);rw[List.getElem?_map,List.getElem?_range hq];rfl
 have abH:c0.rows.length=j:=by show((List.range j).map rw).length=j;simp
 have NE:∀g i x,PW cx w g i x->PW c0 w g i x:=by
   intro g i x hx;refine⟨hx.1,λK0=>?_,hx.2.2⟩;rcases K0 with K0 | ⟨r,n,cap,sz,hr,h1,h2⟩ | K0
   obtain⟨i',NC,rfl⟩:=sH g K0;exact hx.2.1 (.inl (oT i' NC));exact hx.2.1 (.inr (.inl ⟨σ r,n,cap,sz,(aQ _ _ hr).2,h1,h2⟩));exact hx.2.1 K0.2
 have hdn:Dn k j ρ σ cx w c0 w:=⟨NE,λi g hi WV=>by
   rw[Ww];rw[hgs i hi] at WV;cases WV;exact⟨hi,rfl⟩,λq hq=>⟨rw q,hrw q hq,oW q hq⟩⟩
 have GC:St G c0 w ⟨hm,k,Fm,j⟩:=by
   refine⟨by simp[c0],hd,λi i' g h1 h2=>?_,λg _=>Nat.zero_le _,λid g b h1 h2=>?_,abH.symm,λq g n cap sz hq=>?_,λq n hq=>?_,λg WV=>?_,(λq i hb=>hs.fU hb.2),λq q' g n cap sz n' CC PX h1 h2=>?_,(λg cs WV=>Bk.plain NE (hG g cs WV) (hs.PB g cs WV)),Nat.zero_le _⟩;obtain⟨hi,e1⟩:=(Ww i g).1 h1;obtain⟨NC,e2⟩:=(Ww i' g).1 h2;exact hgi i i' hi NC (e1.symm.trans e2);obtain⟨hi,rfl⟩:=(Ww id g).1 h1;obtain⟨b',VB,hn⟩:=eA id b hi h2;obtain⟨o,ho,hb⟩:=hs.box (ρ id) (gs id) _ (hgs id hi) VB;exact⟨o,ho,hn.down hdn hb⟩;obtain⟨hq1,ZL⟩:=aQ _ _ hq;obtain⟨_,_,a3,a4,a5⟩:=hs.row _ _ _ _ _ ZL;refine⟨λi hb=>hb.1 (.inr ⟨q,n,cap,sz,hq1,ZL⟩),Nat.zero_le _,λhO=>?_,a4,a5⟩;obtain⟨i,hi,rfl⟩:=sH g hO;exact a3 (oT i hi);have Gm:=hFm q n hq;have:=hs.Kv _ _ (amC q n Gm hq);rw[hrw q Gm] at this;rw[oW q Gm];exact this;obtain⟨i,hi,rfl⟩:=sH g WV;exact hs.Rb (oT i hi);obtain⟨a1,a2⟩:=aQ _ _ h1;obtain⟨b1,b2⟩:=aQ _ _ h2;exact aih _ _ a1 b1 (hs.JZ _ _ _ _ _ _ _ _ _ a2 b2)
 refine(h c0 w vs GC (IJ.down hdn ha)).mono ?_;rintro e w' ⟨c',hx,PE,abw⟩
 have sI:c'.DD=c0.DD:=by
   obtain⟨t,ht⟩:=hx.DD;have h1:c'.DD.length=k:=PE.len.symm;have h2:c0.DD.length=k:=by simp[c0]
   rw[<- ht,List.length_append,h2] at h1;have:t=[]:=List.eq_nil_of_length_eq_zero (by omega);rw[<- ht,this,List.append_nil]
 have ajR:c'.rows.length=j:=PE.J2.symm;have abI:∀q,q < j->∃y,c'.rows[q]?=some y:=λq hq=>⟨_,List.getElem?_eq_getElem (by rw[ajR];exact hq)⟩
 have hle:∀q y,q < j->c'.rows[q]?=some y->Lq (rw q) y:=by
   intro q y hq hy;obtain⟨x,h1,h2⟩:=hx.rows q y (by rw[abH];exact hq) hy;rw[oW q hq] at h1;cases h1;exact h2
 let lC:List Rw:=(List.range cx.rows.length).map λq=>open Classical in if hq:∃r,r < j/\σ r=q then c'.rows.getD (Classical.choose hq) .gone else cx.rows.getD q .gone
 have abJ:lC.length=cx.rows.length:=by simp[lC]
 have ZY:∀r,r < j->lC[σ r]?=c'.rows[r]?:=by
   intro r hr;have hl:=(List.getElem?_eq_some_iff.1 (hrw r hr)).1;show((List.range cx.rows.length).map _)[σ r]?=_;rw[List.getElem?_map,List.getElem?_range hl];simp only[Option.map_some];have hq:∃r',r' < j/\σ r'=σ r:=⟨r,hr,rfl⟩;rw[dif_pos hq];have hc:=Classical.choose_spec hq;have:Classical.choose hq=r:=aih _ _ hc.1 hr hc.2;rw[this];obtain⟨y,hy⟩:=abI r hr;rw[List.getD_eq_getElem?_getD,hy];rfl
 have eF:∀q,(∀r,r < j->q≠σ r)->lC[q]?=cx.rows[q]?:=by
   intro q hq;by_cases hl:q < cx.rows.length;show((List.range cx.rows.length).map _)[q]?=_;rw[List.getElem?_map,List.getElem?_range hl];simp only[Option.map_some];rw[dif_neg (by rintro⟨r,h1,h2⟩;exact hq r h1 h2.symm),List.getD_eq_getElem?_getD,List.getElem?_eq_getElem hl];rfl;rw[List.getElem?_eq_none (by omega),List.getElem?_eq_none (by omega)]
 have Tx:∀q:Nat,(∃r,r < j/\q=σ r)\/∀r,r < j->q≠σ r:=λq=>by
   by_cases hq:∃r,r < j/\q=σ r;exact .inl hq;exact .inr λr h1 h2=>hq ⟨r,h1,h2⟩
 have TU:∀r g n cap sz,r < j->c'.rows[r]?=some (.R1 g n cap sz)->(∃r0 n0 Sg lT,r0 < j/\cx.rows[σ r0]?=some (.R1 g n0 Sg lT))\/w.heap.size<=g:=by
   intro r g n cap sz hr hy;rcases hx.lB _ _ _ _ _ hy with ⟨r0,n0,Sg,lT,h1⟩ | h1
   obtain⟨h2,h3⟩:=aQ _ _ h1;exact .inl ⟨r0,n0,Sg,lT,h2,h3⟩;exact .inr h1
 have ZU:=hx.below
 have oN:SI w w' K:=⟨ZU.os,ZU.tape,ZU.output,ZU.size,λq hq Kw=>hx.U3 q hq (λhO=>Kw (.inl (sH q hO))) (λr n cap sz hr=>Kw (by
   obtain⟨h1,h2⟩:=aQ _ _ hr;exact .inr ⟨r,n,cap,sz,h1,h2⟩))⟩
 have hKb:∀q,K q->cx.base<=q:=by
   rintro q (⟨i,hi,rfl⟩ | ⟨r,n,cap,sz,hr,h1⟩);exact hs.low _ (oT i hi);exact(hs.row _ _ _ _ _ h1).2.1
 let c1:Cx:=⟨cx.base,cx.DD,lC,cx.bad⟩
 have aij:∀g i x,PW c' w' g i x->PW c1 w' g i x:=by
   intro g i x hv;refine⟨hv.1,λK0=>hv.2.1 ?_,hv.2.2⟩;have NB:¬K g->cx.xW g i->c'.xW g i:=λh1 h2=>.inr (.inr (by rw[hx.bad];exact⟨h1,h2⟩));rcases K0 with K0 | ⟨q,n,cap,sz,hq,h1,h2⟩ | K0
   by_cases hK:K g;rcases hK with ⟨i',NC,rfl⟩ | ⟨r,n,cap,sz,hr,h1⟩
   refine .inl ?_;rw[sI];exact List.mem_of_getElem? ((Ww i' (gs i')).2 ⟨NC,rfl⟩);exact absurd K0 (hs.row _ _ _ _ _ h1).2.2.1;exact NB hK (.inl K0);rcases Tx q with ⟨r,hr,rfl⟩ | nE
   simp only[c1] at hq;rw[ZY r hr] at hq;exact .inr (.inl ⟨r,n,cap,sz,hq,h1,h2⟩);simp only[c1] at hq;rw[eF q nE] at hq;refine NB ?_ (.inr (.inl ⟨q,n,cap,sz,hq,h1,h2⟩));rintro(⟨i',NC,rfl⟩ | ⟨r,n',CC,PX,hr,h3⟩);exact(hs.row _ _ _ _ _ hq).2.2.1 (oT i' NC);exact nE r hr (hs.JZ _ _ _ _ _ _ _ _ _ hq h3);by_cases hK:K g;rcases hK with ⟨i',NC,rfl⟩ | ⟨r,n,cap,sz,hr,h1⟩
   refine .inl ?_;rw[sI];exact List.mem_of_getElem? ((Ww i' (gs i')).2 ⟨NC,rfl⟩);exact absurd K0 ((hs.row _ _ _ _ _ h1).1 i);exact NB hK (.inr (.inr K0))
 have ext:Ext cx w c1 w':=by
   refine⟨List.prefix_refl _,by simp[c1,abJ],λq y hq hy=>?_,λg i x hv=>aij g i x (hx.gI g i x (NE g i x hv)),oN.below hs.Sd hKb,rfl,rfl,λ_ h=>.inl h,λq g n cap sz hq=>?_,λq hq hp hr=>oN.block q hq ?_⟩;rcases Tx q with ⟨r,hr,rfl⟩ | nE
   simp only[c1] at hy;rw[ZY r hr] at hy;exact⟨rw r,hrw r hr,hle r y hr hy⟩;simp only[c1] at hy;rw[eF q nE] at hy;exact⟨y,hy,Lq.refl y⟩;rcases Tx q with ⟨r,hr,rfl⟩ | nE
   simp only[c1] at hq;rw[ZY r hr] at hq;rcases TU _ _ _ _ _ hr hq with ⟨r0,n0,Sg,lT,_,h1⟩ | h1
   exact .inl ⟨_,_,_,_,h1⟩;exact .inr h1;simp only[c1] at hq;rw[eF q nE] at hq;exact .inl ⟨_,_,_,_,hq⟩;rintro(⟨i',NC,rfl⟩ | ⟨r,n',CC,PX,ZM,h3⟩);exact hp (oT i' NC);exact hr _ _ _ _ h3
 have hup:Up k j ρ σ c' w' c1 w':=⟨aij,λi g hi WV=>by
   rw[sI,Ww] at WV;obtain⟨_,rfl⟩:=WV;exact hgs i hi,λq hq=>by
   obtain⟨y,hy⟩:=abI q hq;exact⟨y,by simp only[c1];rw[ZY q hq];exact hy,hy⟩⟩
 have st1:St G c1 w' s2:=by
   refine⟨by rw[hu.nx,hs.len],by rw[hu.nx];exact hu.desc _ hs.desc,hs.nodup,hs.low,λid g b h1 h2=>?_,by rw[hu.nr,hs.J2];exact abJ.symm,λq g n cap sz hq=>?_,λq n hq=>?_,λg WV=>Nat.lt_of_lt_of_le (hs.O5 g WV) oN.size,λg i hb=>Nat.lt_of_lt_of_le (hs.OW g i hb) oN.size,λq q' g n cap sz n' CC PX h1 h2=>?_,λg cs WV=>(hs.PB g cs WV).mono ext,Nat.le_trans hs.Sd oN.size⟩;rcases hu.get id b h2 with ⟨i,b0,hi,rfl,hb0,hn⟩ | ⟨Kw,h3⟩
   obtain⟨o,ho,hb⟩:=PE.box i (gs i) b0 (by rw[sI];exact(Ww i (gs i)).2 ⟨hi,rfl⟩) hb0;have h1:cx.DD[ρ i]?=some (some g):=h1;rw[hgs i hi] at h1;cases h1;exact⟨o,ho,hn.up hup hb⟩;obtain⟨o,ho,hb⟩:=hs.box id g b h1 h3;refine⟨o,?_,hb.mono ext⟩;rw[oN.block g (Array.getElem?_eq_some_iff.1 ho).1 ?_];exact ho;rintro(⟨i',NC,rfl⟩ | ⟨r,n',CC,PX,ZM,h4⟩);exact Kw i' NC (hs.nodup _ _ _ h1 (hgs i' NC));exact(hs.row _ _ _ _ _ h4).2.2.1 (List.mem_of_getElem? h1);simp only[c1] at hq ⊢;rcases Tx q with ⟨r,ZM,rfl⟩ | nE
   rw[ZY r ZM] at hq;obtain⟨a1,a2,a3,a4,a5⟩:=PE.row _ _ _ _ _ hq;rcases TU _ _ _ _ _ ZM hq with ⟨r0,n0,Sg,lT,_,h4⟩ | h4
   obtain⟨b1,b2,b3,_⟩:=hs.row _ _ _ _ _ h4;exact⟨b1,b2,b3,a4,a5⟩;refine⟨λi hb=>?_,Nat.le_trans hs.Sd h4,λhO=>?_,a4,a5⟩;have:=hs.OW _ _ hb;omega;have:=hs.Rb hO;omega;rw[eF q nE] at hq;obtain⟨a1,a2,a3,a4,vs',T,a5,a6⟩:=hs.row _ _ _ _ _ hq;refine⟨a1,a2,a3,a4,vs',T,?_,a6⟩;rw[oN.block g (Array.getElem?_eq_some_iff.1 a5).1 ?_];exact a5;rintro(⟨i',NC,rfl⟩ | ⟨r,n',CC,PX,ZM,h4⟩);exact a3 (oT i' NC);exact nE r ZM (hs.JZ _ _ _ _ _ _ _ _ _ hq h4);simp only[c1];rcases hu.tok q n hq with ⟨r,ZM,rfl,h3⟩ | ⟨nE,h3⟩
   rw[ZY r ZM];exact PE.Kv r n h3;rw[eF q nE];exact hs.Kv q n h3;simp only[c1] at h1 h2
   have key:∀r q,r < j->(∀r',r' < j->q≠σ r')->∀n cap sz n' CC PX,c'.rows[r]?=some (.R1 g n cap sz)->cx.rows[q]?=some (.R1 g n' CC PX)->False:=by
     intro r q ZM nE n cap sz n' CC PX e1 e2;rcases TU _ _ _ _ _ ZM e1 with ⟨r0,n0,Sg,lT,sK,h4⟩ | h4
     exact nE r0 sK (hs.JZ _ _ _ _ _ _ _ _ _ e2 h4);have:=hs.Rf e2;omega
   rcases Tx q with ⟨r,ZM,rfl⟩ | hq1<;>rcases Tx q' with ⟨r2,hP,rfl⟩ | ZL
   rw[ZY r ZM] at h1;rw[ZY r2 hP] at h2;rw[PE.JZ _ _ _ _ _ _ _ _ _ h1 h2];rw[ZY r ZM] at h1;rw[eF q' ZL] at h2;exact(key r q' ZM ZL _ _ _ _ _ _ h1 h2).elim;rw[eF q hq1] at h1;rw[ZY r2 hP] at h2;exact(key r2 q hP hq1 _ _ _ _ _ _ h2 h1).elim;rw[eF q hq1] at h1;rw[eF q' ZL] at h2;exact hs.JZ _ _ _ _ _ _ _ _ _ h1 h2
 refine⟨c1,ext,st1,?_⟩;cases r with
 | ret v =>
   cases r' with
   | ret v' =>
     obtain⟨u,rfl,hu'⟩:=abw;exact⟨u,rfl,Rn.up hup hr hu'⟩
   | JI v'=>exact hr.elim
 | JI v =>
   cases r' with
   | ret v'=>exact hr.elim
   | JI v' =>
     obtain⟨u,rfl,hu'⟩:=abw;exact⟨u,rfl,Rn.up hup hr hu'⟩
end AI
namespace AI
open Go Go.RowKit
def U6:List Bo->Nat->List (Nat×Bo)->List (Nat×Bo)
 | [],_,acc=>acc
 | b::l,n,acc=>U6 l (n+1) ((n,b)::acc)
def qS:List Nat->Nat->List (Nat×Nat)
 | [],_=>[]
 | k::l,n=>(n,k)::qS l (n+1)
def pL{M:List Bo}:∀{n:Nat} {acc:List (Nat×Bo)} {i:Nat} {b:Bo},KD acc n->look i (U6 M n acc)=some b->(n<=i/\M[i - n]?=some b)\/look i acc=some b:=by
 induction M with
 | nil=>intro n acc i b _ h;exact .inr h
 | cons x M ih =>
   intro n acc i b hd h;rcases ih (n:=n+1) (acc:=(n,x)::acc) ⟨Nat.lt_succ_self n,hd⟩ h with ⟨h1,h2⟩ | h1
   refine .inl ⟨by omega,?_⟩;rw[show i - n=(i - (n+1))+1 by omega];exact h2;simp only[look] at h1;split at h1;rename_i hb;have:=beq_true hb;subst this;cases h1;exact .inl ⟨Nat.le_refl _,by simp⟩;exact .inr h1
def nZ{M:List Bo}:∀{n:Nat} {acc:List (Nat×Bo)},KD acc n->KD (U6 M n acc) (n+M.length):=by
 induction M with
 | nil=>intro n acc h;exact h
 | cons x M ih =>
   intro n acc h;have:=ih (n:=n+1) (acc:=(n,x)::acc) ⟨Nat.lt_succ_self n,h⟩;rw[List.length_cons,show n+(M.length+1)=n+1+M.length by omega];exact this
def VR{T:List Nat}:∀{n r k:Nat},Fv r (qS T n)=some k->n<=r/\T[r - n]?=some k:=by
 induction T with
 | nil=>intro n r k h;cases h
 | cons x T ih =>
   intro n r k h;simp only[qS,Fv] at h;split at h;rename_i hb;have:=beq_true hb;subst this;cases h;exact⟨Nat.le_refl _,by simp⟩;obtain⟨h1,h2⟩:=ih h;refine⟨by omega,?_⟩;rw[show r - n=(r - (n+1))+1 by omega];exact h2
def cD{T:List Nat}:∀{n r:Nat},n<=r->r - n < T.length->∃k,Fv r (qS T n)=some k:=by
 induction T with
 | nil=>intro n r _ h;simp at h
 | cons x T ih =>
   intro n r h1 h2;simp only[qS,Fv];split;exact⟨_,rfl⟩;rename_i hb;have:=beq_false hb;exact ih (by omega) (by simp at h2;omega)
inductive XT(k j:Nat)(ρ σ:Nat->Nat):List Bo->List (Nat×Bo)->Prop where
 | nil:XT k j ρ σ [] []
 | cons {b b':Bo} {i:Nat} {l:List Bo} {m:List (Nat×Bo)} (h:u5 k j ρ σ b b') (t:XT k j ρ σ l m):XT k j ρ σ (b::l) ((i,b')::m)
def XT.len{k j:Nat}{ρ σ:Nat->Nat}{l:List Bo}{m:List (Nat×Bo)}(h:XT k j ρ σ l m):l.length=m.length:=by
 induction h with
 | nil=>rfl
 | cons _ _ ih=>simp[ih]
def XT.get{k j:Nat}{ρ σ:Nat->Nat}{l:List Bo}{m:List (Nat×Bo)}(h:XT k j ρ σ l m):∀{i:Nat} {b:Bo},l[i]?=some b->∃e,m[i]?=some e/\u5 k j ρ σ b e.2:=by
 induction h with
 | nil=>intro i b hb;simp at hb
 | cons h _ ih =>
   intro i b hb;cases i with
   | zero=>simp at hb;subst hb;exact⟨_,rfl,h⟩
   | succ i=>exact ih (by simpa using hb)
def XT.apu{k j:Nat}{ρ σ:Nat->Nat}{l:List Bo}{m:List (Nat×Bo)}(h:XT k j ρ σ l m):∀{i:Nat} {e:Nat×Bo},m[i]?=some e->∃b,l[i]?=some b/\u5 k j ρ σ b e.2:=by
 induction h with
 | nil=>intro i b hb;simp at hb
 | cons h _ ih =>
   intro i b hb;cases i with
   | zero=>simp at hb;subst hb;exact⟨_,rfl,h⟩
   | succ i=>exact ih (by simpa using hb)
def l7:∀(l:List (Nat×Bo)) (s:AS) (id:Nat) (b:Bo),(s.V8 l).get id=some b->(∃e∈l,e.1=id/\e.2=b)\/((∀e∈l,e.1≠id)/\s.get id=some b)
 | [],s,id,b,h=>.inr ⟨(λe he=>by cases he),h⟩
 | e::l,s,id,b,h=>by
   rcases l7 l (s.put e.1 e.2) id b h with ⟨x,hx,h1⟩ | ⟨h1,h2⟩
   exact .inl ⟨x,List.mem_cons_of_mem _ hx,h1⟩;rcases Zx h2 with ⟨h3,h4⟩ | ⟨h3,h4⟩
   exact .inl ⟨e,List.mem_cons_self,h3.symm,h4.symm⟩;refine .inr ⟨λx hx=>?_,h4⟩;rcases List.mem_cons.1 hx with rfl | hx
   exact λe=>h3 e.symm;exact h1 x hx
def cH:∀(l:List (Nat×Bo)) (s:AS),(s.V8 l).nx=s.nx/\(s.V8 l).nr=s.nr/\(s.V8 l).F=s.F/\∀n,KD s.h n->KD (s.V8 l).h n
 | [],s=>⟨rfl,rfl,rfl,λ_ h=>h⟩
 | e::l,s=>by
   obtain⟨h1,h2,h3,h4⟩:=cH l (s.put e.1 e.2);exact⟨h1,h2,h3,λn h=>h4 n (Zw h)⟩
def aL:∀(l:List (Nat×Nat)) (s:AS) (q n:Nat),Fv q (s.Tw l).F=some n->(∃e∈l,e.1=q/\e.2=n)\/((∀e∈l,e.1≠q)/\Fv q s.F=some n)
 | [],s,q,n,h=>.inr ⟨(λe he=>by cases he),h⟩
 | e::l,s,q,n,h=>by
   rcases aL l _ q n h with ⟨x,hx,h1⟩ | ⟨h1,h2⟩
   exact .inl ⟨x,List.mem_cons_of_mem _ hx,h1⟩;rcases bY h2 with ⟨h3,h4,_⟩ | ⟨h3,h4⟩
   exact .inl ⟨e,List.mem_cons_self,h3.symm,h4.symm⟩;refine .inr ⟨λx hx=>?_,h4⟩;rcases List.mem_cons.1 hx with rfl | hx
   exact λe=>h3 e.symm;exact h1 x hx
def Yv:∀(l:List (Nat×Nat)) (s:AS),(s.Tw l).nx=s.nx/\(s.Tw l).nr=s.nr/\(s.Tw l).h=s.h
 | [],s=>⟨rfl,rfl,rfl⟩
 | e::l,s=>Yv l _
def Yu:∀{l:List (Nat×Bo)} {s:AS},Yt s l=OQ l->∀{i:Nat} {e:Nat×Bo},l[i]?=some e->s.get e.1=some e.2
 | [],s,_,i,e,he=>by simp at he
 | x::l,s,h,i,e,he=>by
   simp only[Yt,OQ,List.cons.injEq] at h;cases i with
   | zero=>simp at he;subst he;exact h.1
   | succ i=>exact Yu h.2 (by simpa using he)
def jK:∀{l:List (Nat×Nat)} {F:List (Nat×Nat)},aJ F l=Pn l->∀{i:Nat} {e:Nat×Nat},l[i]?=some e->Fv e.1 F=some e.2
 | [],s,_,i,e,he=>by simp at he
 | x::l,s,h,i,e,he=>by
   simp only[aJ,Pn,List.cons.injEq] at h;cases i with
   | zero=>simp at he;subst he;exact h.1
   | succ i=>exact jK h.2 (by simpa using he)
mutual
inductive Occ(id:Nat):AV->Prop where
 | ptr {off:Nat}:Occ id (.ptr id off)
 | mp:Occ id (.mp id)
 | Og {off n:Nat}:Occ id (.Og id off n)
 | agg {cs:List AV} (h:UB id cs):Occ id (.agg cs)
 | fn1 {f:Fn} {a b:List AV} (h:UB id a):Occ id (.fn f a b)
 | fn2 {f:Fn} {a b:List AV} (h:UB id b):Occ id (.fn f a b)
inductive UB(id:Nat):List AV->Prop where
 | here {a:AV} {l:List AV} (h:Occ id a):UB id (a::l)
 | there {a:AV} {l:List AV} (h:UB id l):UB id (a::l)
end
mutual
def Occ.DD{c:Cx}{w:World}{id:Nat}:∀{a:AV} {v:Value},Occ id a->Rp c w a v->∃g,c.DD[id]?=some (some g):=by
 intro a v ho h;cases ho with
 | ptr=>cases h with | ptr h1=>exact⟨_,h1⟩
 | mp=>cases h with | mp h1=>exact⟨_,h1⟩
 | Og=>cases h with | Og hn h1=>exact⟨_,h1⟩
 | agg h1=>cases h with | agg h2=>exact UB.DD h1 h2
 | fn1 h1=>cases h with | fn h2 h3=>exact UB.DD h1 h2
 | fn2 h1=>cases h with | fn h2 h3=>exact UB.DD h1 h3
def UB.DD{c:Cx}{w:World}{id:Nat}:∀{a:List AV} {v:List Value},UB id a->CX c w a v->∃g,c.DD[id]?=some (some g):=by
 intro a v ho h;cases ho with
 | here h1=>cases h with | cons h2 _=>exact Occ.DD h1 h2
 | there h1=>cases h with | cons _ h2=>exact UB.DD h1 h2
end
inductive Rch(args:List AV)(pre:List (Nat×Bo)):Nat->Prop where
 | arg {id:Nat} (h:UB id args):Rch args pre id
 | box {i id p:Nat} {cs:List AV} (h:Rch args pre i) (hp:pre[p]?=some (i,.cells cs)) (ho:UB id cs):Rch args pre id
def Rch.DD{G:Bc}{args:List AV}{pre:List (Nat×Bo)}{s:AS}(hb:Yt s pre=OQ pre){cx:Cx}{w:World}{vs:List Value}(hs:St G cx w s)(ha:CX cx w args vs){id:Nat}(h:Rch args pre id):∃g,cx.DD[id]?=some (some g):=by
 induction h with
 | arg h=>exact h.DD ha
 | box h hp ho ih =>
   obtain⟨g,hg⟩:=ih;obtain⟨o,_,hbo⟩:=hs.box _ g _ hg (Yu hb hp);cases hbo with
   | Ja ext hr=>exact ho.DD hr
def LJ{β:Type}(l:List (Nat×β))(i:Nat):Nat:=match l[i]? with
 | some e=>e.1
 | none=>0
def LK{β:Type}{l:List (Nat×β)}{i:Nat}{e:Nat×β}(h:l[i]?=some e):LJ l i=e.1:=by unfold LJ;rw[h]
def keys{β:Type}(l:List (Nat×β)):List Nat:=l.map (·.1)
def aV{β:Type}{l:List (Nat×β)}(h:(keys l).Nodup){i i':Nat}(hi:i < l.length)(NC:i' < l.length)(e:LJ l i=LJ l i'):i=i':=by
 have h1:(keys l)[i]?=some (LJ l i):=by
   unfold keys;rw[List.getElem?_map,List.getElem?_eq_getElem hi,LK (List.getElem?_eq_getElem hi)];rfl
 have h2:(keys l)[i']?=some (LJ l i'):=by
   unfold keys;rw[List.getElem?_map,List.getElem?_eq_getElem NC,LK (List.getElem?_eq_getElem NC)];rfl
 rw[<- e] at h2;exact wY h h1 h2
def QY{β β':Type}{l:List (Nat×β)}{m:List (Nat×β')}(h:keys l=keys m)(i:Nat):LJ l i=LJ m i:=by
 have h1:=congrArg (λx=>x[i]?) h;unfold keys at h1;simp only[List.getElem?_map] at h1;unfold LJ;cases hl:l[i]?<;>cases hm:m[i]?<;>rw[hl,hm] at h1<;>simp at h1<;>simp[h1]
def H5{P:Program}{G:Bc}(hG:∀g cs,G g=some cs->BS cs=true){f:FuncId}{args X5:List AV}{r r':CR}{M M2:List Bo}{T T2:List Nat}(pre Ro:List (Nat×Bo))(tp tu:List (Nat×Nat)){k j:Nat}
   (h:Sound P G (.call f args ⟨U6 M 0 [],k,qS T 0,j⟩ r ⟨U6 M2 0 [],k,qS T2 0,j⟩))
   (hk:M.length=k) (hj:T.length=j) (wG:T2.length=j)
   (hku:keys Ro=keys pre) (hkt:keys tu=keys tp) (Qa:(keys pre).Nodup) (Qb:(keys tp).Nodup)
   (htp:tp.map (·.2)=T) (htu:tu.map (·.2)=T2)
   (hb:XT k j (LJ pre) (LJ tp) M pre) (Cg:XT k j (LJ pre) (LJ tp) M2 Ro)
   (IJ:UD k j (LJ pre) (LJ tp) args X5)
   (hr:RnR k j (LJ pre) (LJ tp) r r')
   (apY:∀e∈pre,Rch X5 pre e.1):Cd.ok P G (.Ff f X5 r' pre tp Ro tu):=by
 intro s hgb hgf;have hpl:pre.length=k:=by rw[<- hb.len,hk]
 have htl:tp.length=j:=by rw[<- hj,<- htp,List.length_map]
 have hul:Ro.length=k:=by
   have:=congrArg List.length hku;simp only[keys,List.length_map] at this;omega
 have arv:tu.length=j:=by rw[<- wG,<- htu,List.length_map]
 refine ajs hG h (by have:=nZ (M:=M) (n:=0) (acc:=[]) trivial;rw[Nat.zero_add,hk] at this;exact this) (LJ pre) (LJ tp) (λi i' hi NC e=>aV Qa (by omega) (by omega) e) (λi i' hi NC e=>aV Qb (by omega) (by omega) e) IJ (s:=s) (λi b hi hl=>?_) (λcx w vs hs ha i hi=>?_) (λq n hq hl=>?_) (λq hq=>?_) (λq n hl=>?_) hr ?_;rcases pL (acc:=[]) trivial hl with ⟨_,h1⟩ | h1
 rw[Nat.sub_zero] at h1;obtain⟨e,he,hn⟩:=hb.get h1;exact⟨e.2,by rw[LK he];exact Yu hgb he,hn⟩;cases h1;have he:pre[i]?=some pre[i]:=List.getElem?_eq_getElem (by omega);rw[LK he];exact(apY _ (List.mem_of_getElem? he)).DD hgb hs ha;obtain⟨_,h1⟩:=VR hl;rw[Nat.sub_zero,<- htp,List.getElem?_map] at h1;cases he:tp[q]? with
 | none=>rw[he] at h1;cases h1
 | some e =>
   rw[he] at h1;simp at h1;rw[LK he,<- h1];exact jK hgf he
 exact cD (Nat.zero_le _) (by omega);obtain⟨_,h1⟩:=VR hl;have:=(List.getElem?_eq_some_iff.1 h1).1;omega;obtain⟨a1,a2,a3,a4⟩:=cH Ro s;obtain⟨b1,b2,b3⟩:=Yv tu (s.V8 Ro);refine⟨by rw[b1,a1],by rw[b2,a2],λn hd=>by rw[b3];exact a4 n hd,λid b hg=>?_,λq n hq=>?_⟩
 have hg:(s.V8 Ro).get id=some b:=by
   unfold AS.get at hg ⊢;rw[b3] at hg;exact hg
 rcases l7 Ro s id b hg with ⟨e,he,rfl,rfl⟩ | ⟨h1,h2⟩
 obtain⟨i,hi⟩:=List.mem_iff_getElem?.1 he;have hil:=(List.getElem?_eq_some_iff.1 hi).1;obtain⟨b0,hb0,hn⟩:=Cg.apu hi;refine .inl ⟨i,b0,by omega,by rw[<- QY hku,LK hi],?_,hn⟩
 have:∀(M:List Bo) (n:Nat) (acc:List (Nat×Bo)) (i:Nat) (b:Bo),M[i]?=some b->(∀e∈acc,e.1 < n)->look (n+i) (U6 M n acc)=some b:=by
   intro M
   induction M with
   | nil=>intro n acc i b h;simp at h
   | cons x M ih =>
     intro n acc i b h jO;cases i with
     | succ i =>
       have:=ih (n+1) ((n,x)::acc) i b (by simpa using h) (λe he=>by
         rcases List.mem_cons.1 he with rfl | he
         exact Nat.lt_succ_self _;have:=jO e he;omega)
       rw[show n+(i+1)=n+1+i by omega];exact this
     | zero =>
       simp at h;subst h;simp only[U6,Nat.add_zero]
       have amy:∀(M:List Bo) (n':Nat) (acc:List (Nat×Bo)),n < n'->look n (U6 M n' acc)=look n acc:=by
         intro M
         induction M with
         | nil=>intro n' acc _;rfl
         | cons y M ih2 =>
           intro n' acc Gm;simp only[U6];rw[ih2 (n'+1) _ (by omega)];simp only[look]
           have:Nat.beq n' n=false:=by
             cases hq:Nat.beq n' n with
             | false=>rfl
             | true=>have:=beq_true hq;omega
           rw[this]
       rw[amy M (n+1) _ (by omega)];simp only[look];rw[show Nat.beq n n=true from Nat.beq_refl n]
 have:=this M2 0 [] i b0 hb0 (λe he=>by cases he);rwa[Nat.zero_add] at this;refine .inr ⟨λi hi e=>?_,h2⟩;have he:Ro[i]?=some Ro[i]:=List.getElem?_eq_getElem (by omega);refine h1 _ (List.mem_of_getElem? he) ?_;rw[e,<- QY hku,LK he];rcases aL tu _ q n hq with ⟨e,he,rfl,rfl⟩ | ⟨h1,h2⟩
 obtain⟨i,hi⟩:=List.mem_iff_getElem?.1 he;have hil:=(List.getElem?_eq_some_iff.1 hi).1;refine .inl ⟨i,by omega,by rw[<- QY hkt,LK hi],?_⟩;obtain⟨kk,hkk⟩:=cD (T:=T2) (n:=0) (r:=i) (Nat.zero_le _) (by omega);obtain⟨_,h3⟩:=VR hkk;rw[Nat.sub_zero,<- htu,List.getElem?_map,hi] at h3;simp at h3;rw[hkk,h3];refine .inr ⟨λi hi e=>?_,by rw[<- a3];exact h2⟩;have he:tu[i]?=some tu[i]:=List.getElem?_eq_getElem (by omega);refine h1 _ (List.mem_of_getElem? he) ?_;rw[e,<- QY hkt,LK he]
end AI
namespace AI
open Go Go.RowKit
section
variable {P:Program} {G:Bc}
def QM(G:Bc)(s0:AS)(r0:CR)(s2:AS):CR->AS->Prop:=λr s'=>match r0 with
 | .ret v=>∃a,r=.ret a/\zZ G s0 [a] s' [v] s2
 | .JI v=>∃a,r=.JI a/\zZ G s0 [a] s' [v] s2
def B0(hm:P.follows .mixedOrders=true){f:FuncId}{args:List AV}{s0 s2:AS}{r0:CR}(h:WC P G (XS P G) H0 f args s0 (QM G s0 r0 s2)):Sound P G (.call f args s0 r0 s2):=by
 obtain⟨r,s',hj,hq⟩:=h;have hS:=sound (TQ hm) hj;intro cx w vs hs IJ;refine(hS cx w vs hs IJ).mono ?_;rintro e w' ⟨c',hx,CW,abw⟩;cases r0 with
 | ret v =>
   obtain⟨a,rfl,hf⟩:=hq;obtain⟨u,rfl,hu⟩:=abw;obtain⟨c2,x2,XE,f2⟩:=hf cx w c' w' [u] hx hs CW (.cons hu .nil);cases f2 with
   | cons f3 _=>exact⟨c2,x2,XE,u,rfl,f3⟩
 | JI v =>
   obtain⟨a,rfl,hf⟩:=hq;obtain⟨u,rfl,hu⟩:=abw;obtain⟨c2,x2,XE,f2⟩:=hf cx w c' w' [u] hx hs CW (.cons hu .nil);cases f2 with
   | cons f3 _=>exact⟨c2,x2,XE,u,rfl,f3⟩
def RS(P:Program)(G:Bc)(fn:Func)(m:Nat)(s0:AS)(Q:AX->List AV->AS->Prop)(v:AV)(s2:AS):Prop:=∀a s',zZ G s0 [a] s' [v] s2->R4 P fn m Q a s'
def TI(G:Bc)(m:Nat)(s0:AS)(Q:AX->List AV->AS->Prop)(v:AV)(s2:AS):Prop:=∀a s',zZ G s0 [a] s' [v] s2->UC m Q a s'
def RS.body{fn:Func}{m:Nat}{s0 s2:AS}{v:AV}:RS P G fn m s0 (UJ P fn m (QM G s0 (.ret v) s2)) v s2:=λa s' hf=>.body ⟨a,rfl,hf⟩
def TI.body{fn:Func}{m:Nat}{s0 s2:AS}{v:AV}:TI G m s0 (UJ P fn m (QM G s0 (.JI v) s2)) v s2:=λa s' hf=>.body ⟨a,rfl,hf⟩
def RS.outer{fn:Func}{m id:Nat}{ks:List KI}{s0 s2:AS}{Q:AX->List AV->AS->Prop}{v:AV}(h:RS P G fn m s0 Q v s2):RS P G fn m s0 (EV id (Ej P G ks Q)) v s2:=λa s' hf=>(h a s' hf).outer
def RS.Gi{fn:Func}{m:Nat}{L:Code}{s0 s1 s2:AS}{Q:AX->List AV->AS->Prop}{v:AV}(h:RS P G fn m s0 Q v s2):RS P G fn m s0 (Ui P G L s1 Q) v s2:=h
def TI.outer{m id:Nat}{ks:List KI}{s0 s2:AS}{Q:AX->List AV->AS->Prop}{v:AV}(h:TI G m s0 Q v s2):TI G m s0 (EV id (Ej P G ks Q)) v s2:=λa s' hf=>(h a s' hf).outer
def TI.Gi{m:Nat}{L:Code}{s0 s1 s2:AS}{Q:AX->List AV->AS->Prop}{v:AV}(h:TI G m s0 Q v s2):TI G m s0 (Ui P G L s1 Q) v s2:=h
def Af{f:FuncId}{args:List AV}{v:AV}{pre:List (Nat×Bo)}{tp:List (Nat×Nat)}{Ro:List (Nat×Bo)}{tu:List (Nat×Nat)}(h:Cd.ok P G (.Ff f args (.ret v) pre tp Ro tu)):PC P G :=
 ⟨.u v pre tp Ro tu,[.Ff f args (.ret v) pre tp Ro tu,.yZ (OQ pre) (OQ pre) (Pn tp) (Pn tp)],⟨h,⟨rfl,rfl⟩,trivial⟩⟩
def af8{f:FuncId}{args Wl:List AV}{v:AV}{pre:List (Nat×Bo)}{tp:List (Nat×Nat)}{Ro:List (Nat×Bo)}{tu:List (Nat×Nat)}(w:Wn args Wl)(h:Cd.ok P G (.Ff f Wl (.ret v) pre tp Ro tu)):PC P G :=
 ⟨.u v pre tp Ro tu,[.Ff f args (.ret v) pre tp Ro tu,.yZ (OQ pre) (OQ pre) (Pn tp) (Pn tp)],⟨λs h1 h2 cx wd vs hs ha=>h s h1 h2 cx wd vs hs (w.ok ha),⟨rfl,rfl⟩,trivial⟩⟩
def An{f:FuncId}{args:List AV}{v:AV}{pre:List (Nat×Bo)}{tp:List (Nat×Nat)}{Ro:List (Nat×Bo)}{tu:List (Nat×Nat)}(h:Cd.ok P G (.Ff f args (.JI v) pre tp Ro tu)):PC P G :=
 ⟨.q v pre tp Ro tu,[.Ff f args (.JI v) pre tp Ro tu,.yZ (OQ pre) (OQ pre) (Pn tp) (Pn tp)],⟨h,⟨rfl,rfl⟩,trivial⟩⟩
def pz(c:Nat):PC P G:=⟨.z c,[],trivial⟩
def nG:PC P G:=⟨.za,[],trivial⟩
end
end AI
namespace AI
open Go Go.RowKit
mutual
def Zu{n m n2 m2:Nat}(h1:n<=n2)(h2:m<=m2):∀{a:AV},under n m a=true->under n2 m2 a=true
 | .sc _,_=>rfl
 | .agg cs,h=>by simp only[under] at h ⊢;exact J6 h1 h2 h
 | .C6 cs,h=>by simp only[under] at h ⊢;exact J6 h1 h2 h
 | .sl o k cs,h=>by
   simp only[under,Bool.and_eq_true] at h ⊢;refine⟨?_,J6 h1 h2 h.2⟩;have h3:=h.1;cases o with
   | row r z=>simp only[decide_eq_true_eq] at h3 ⊢;omega
   | _=>rfl
 | .Og id _ _,h=>by simp only[under,decide_eq_true_eq] at h ⊢;omega
 | .el cs,h=>by simp only[under] at h ⊢;exact J6 h1 h2 h
 | .ptr id _,h=>by simp only[under,decide_eq_true_eq] at h ⊢;omega
 | .fn _ a b,h=>by simp only[under,Bool.and_eq_true] at h ⊢;exact⟨J6 h1 h2 h.1,J6 h1 h2 h.2⟩
 | .Fu _ v,h=>by simp only[under] at h ⊢;exact Zu h1 h2 h
 | .mp id,h=>by simp only[under,decide_eq_true_eq] at h ⊢;omega
 | .any,_=>rfl
 | .raw _ _ _,_=>rfl
def J6{n m n2 m2:Nat}(h1:n<=n2)(h2:m<=m2):∀{a:List AV},FI n m a=true->FI n2 m2 a=true
 | [],_=>rfl
 | a::l,h=>by simp only[FI,Bool.and_eq_true] at h ⊢;exact⟨Zu h1 h2 h.1,J6 h1 h2 h.2⟩
end
def Wn.z{l m:List AV}(t:Wn l m):Wn (.sl .full 0 []::l) (.sl .lost 0 []::m):=.s rfl t
def rS{P:Program}{G:Bc}{r:HR}{X:Prop}{x:Value}{fn:Func}{m:Nat}{l:List (PC P G)}(R:VD P G l (UJ P fn m (λr _=>∃a,r=.ret a/\Fits 0 0 a (.sc x))) r X)(h:agl P fn r=some (nF l,.sc x)):X:=Az fn m R h .body .sc
abbrev JJ:=List Value×List AV
def akz:List Value->Nat->Value
 | [],_=>undef
 | v::_,0=>v
 | _::l,k+1=>akz l k
def amV:List AV->Nat->AV
 | [],_=>.sc undef
 | v::_,0=>v
 | _::l,k+1=>amV l k
def jn(j:JJ)(k:Nat):Value:=akz j.1 k
def gn(j:JJ)(k:Nat):AV:=amV j.2 k
def frm:Nat->Nat->List (Nat×AV)->List Nat->Nat->List Nat->Nat->JJ->List AV
 | 0,_,_,_,_,_,_,_=>[]
 | n+1,p,l,bs,kb,gs,kg,j=>(match ZV p l with
   | some v=>v::frm n (p+1) (l.drop 1) bs kb gs kg j
   | none=>(match oO p bs with
     | true=>.sc (jn j kb)::frm n (p+1) l (bs.drop 1) (kb+1) gs kg j
     | false=>(match oO p gs with
       | true=>gn j kg::frm n (p+1) l bs kb (gs.drop 1) (kg+1) j
       | false=>.any::frm n (p+1) l bs kb gs kg j)))
where
 ZV (p:Nat):List (Nat×AV)->Option AV
   | []=>none
   | e::_=>(match Nat.beq e.1 p with | true=>some e.2 | false=>none)
 oO (p:Nat):List Nat->Bool
   | []=>false
   | e::_=>Nat.beq e p
structure Mm(κ ν:Type) where
 es:List (κ×ν×Nat)
 cl:Nat
section
variable {κ ν:Type} [DecidableEq κ]
def Ma(k:κ):List (κ×ν×Nat)->Nat->Option (Nat×ν)
 | [],_=>none
 | e::es,i=>if e.1=k then some (i,e.2.1) else Ma k es (i+1)
def Mm.get(m:Mm κ ν)(k:κ):Option ν:=(Ma k m.es 0).map (·.2)
def Mm.set(m:Mm κ ν)(k:κ)(v:ν):Mm κ ν:=match Ma k m.es 0 with
 | some (j,_)=>(match m.es[j]? with | some e=>⟨m.es.set j (k,v,e.2.2),m.cl⟩ | none=>m)
 | none=>⟨m.es++[(k,v,m.cl)],m.cl+1⟩
def Mm.nil:Mm κ ν:=⟨[],0⟩
def wW(k k2:κ)(v:ν)(b:Nat):∀(es:List (κ×ν×Nat)) (i:Nat),Ma k (es++[(k2,v,b)]) i=match Ma k es i with
   | some r=>some r
   | none=>if k2=k then some (i+es.length,v) else none:=by
 intro es
 induction es with
 | nil=>intro i;simp[Ma]
 | cons e es ih =>
   intro i;simp only[List.cons_append,Ma];by_cases he:e.1=k;simp[he];rw[if_neg he,if_neg he,ih (i+1)];cases Ma k es (i+1) with
   | some r=>rfl
   | none=>simp only[List.length_cons];rw[show i+1+es.length=i+(es.length+1) by omega]
def kC{k:κ}:∀{es:List (κ×ν×Nat)} {i j:Nat} {v:ν},Ma k es i=some (j,v)->∃m e,j=i+m/\es[m]?=some e/\e.1=k/\e.2.1=v:=by
 intro es
 induction es with
 | nil=>intro i j v h;cases h
 | cons e es ih =>
   intro i j v h;simp only[Ma] at h;split at h;rename_i he;cases h;exact⟨0,e,rfl,rfl,he,rfl⟩;obtain⟨m,e',h1,h2,h3⟩:=ih h;exact⟨m+1,e',by omega,by simpa using h2,h3⟩
def wX{k:κ}{v:ν}:∀{es:List (κ×ν×Nat)} {i m b:Nat} {v0:ν},Ma k es i=some (i+m,v0)->∀k',Ma k' (es.set m (k,v,b)) i=if k'=k then some (i+m,v) else Ma k' es i:=by
 intro es
 induction es with
 | nil=>intro i m b v0 h;cases h
 | cons e es ih =>
   intro i m b v0 h k';simp only[Ma] at h;split at h;rename_i he;have hm:m=0:=by have h5:=congrArg (λo:Option (Nat×ν)=>o.map (·.1)) h;simp at h5;omega
   subst hm;simp only[List.set_cons_zero,Ma,he];by_cases hk:k'=k;simp[hk];have oR:¬k=k':=λe=>hk e.symm;simp[hk,oR];rename_i he;obtain⟨m',_,hm,_⟩:=kC h;cases m with
   | zero=>omega
   | succ m =>
     simp only[List.set_cons_succ,Ma];have:=ih (i:=i+1) (m:=m) (b:=b) (by rw[show i+1+m=i+(m+1) by omega];exact h) k';by_cases hk:e.1=k';rw[if_pos hk,if_pos hk];have:¬k'=k:=λe'=>he (hk.trans e');simp[this];rw[if_neg hk,if_neg hk,this,show i+1+m=i+(m+1) by omega]
def Mm.Xo(m:Mm κ ν)(k:κ)(v:ν)(k':κ):(m.set k v).get k'=if k'=k then some v else m.get k':=by
 unfold Mm.get Mm.set;cases hf:Ma k m.es 0 with
 | none =>
   simp only;rw[wW];by_cases hk:k'=k;subst hk;rw[hf];simp;cases YA:Ma k' m.es 0 with
   | some r=>simp[hk]
   | none =>
     have oR:¬k=k':=λe=>hk e.symm;simp[hk,oR]
 | some r =>
   obtain⟨j,v0⟩:=r;obtain⟨q,e,h1,h2,h3,_⟩:=kC hf;have hj:j=q:=by omega
   subst hj;simp only[h2];rw[wX (i:=0) (m:=j) (v0:=v0) (by rw[Nat.zero_add];exact hf)];by_cases hk:k'=k<;>simp[hk]
end
structure aq6{κ:Type}[DecidableEq κ](d:TypeDesc)(kv:κ->Value):Prop where
 pk:plainKey d=true
 same:∀a b:κ,Zh d (kv a) (kv b)=some (decide (b=a))
end AI
namespace AI
open Go Go.RowKit
section
variable {P:Program} {G:Bc} {α:Type} {f:α->List AV} {C:List α->List AV} {k:Nat}
def xV{l:List α}{i:Nat}(y:α)(h:i < l.length):l.set i y=l.take i++y::l.drop (i+1):=by
 rw[List.set_eq_take_append_cons_drop,if_pos h]
def Rx.st(h:Rx f C k){e:TypeId}(hs:(P.info? e).map (·.size)=some k){l:List α}{i:Nat}{x:α}(hx:l[i]?=some x)(y:α){v:AV}(hv:cellsOf v=f y)(h1:(f y).all one=true):Cd.ok P G (.stB (.cells (C l)) e (0+i*k) v (.cells (C (l.set i y)))):=by
 intro s id hg;have Gm:=(List.getElem?_eq_some_iff.1 hx).1;have hle:i*k+k<=l.length*k:=by have:=Nat.mul_le_mul_right k Gm;rw[Nat.succ_mul] at this;exact this
 cases hi:P.info? e with
 | none=>rw[hi] at hs;cases hs
 | some j =>
   rw[hi] at hs;have hk:j.size=k:=by simpa using hs
   unfold Md;rw[hi];simp only[hg];rw[hv,hk,h.eq,Nat.zero_add,if_pos ⟨h.len y,h1,by rw[SC h.len];exact hle⟩,h.eq];congr 3;unfold J4;rw[h.len y,WK h.len,show i*k+k=(i+1)*k by rw[Nat.succ_mul],WJ h.len,xV y Gm,WI,I8,List.append_assoc]
end
end AI
namespace AI
open Go Go.RowKit
section
variable {P:Program} {G:Bc}
def al4(n:Nat):List Nat->Bool
 | []=>false
 | k::l=>Nat.beq n k||al4 n l
def Y3(ks:List Nat):List (Nat×Bo)->List (Nat×Bo)
 | []=>[]
 | e::l=>match al4 e.1 ks with
   | true=>e::Y3 ks l
   | false=>Y3 ks l
def T7{ks:List Nat}:∀{l:List (Nat×Bo)} {n:Nat},KD l n->KD (Y3 ks l) n
 | [],_,_=>trivial
 | e::l,n,h=>by
   simp only[Y3];split;exact⟨h.1,T7 h.2⟩;exact(T7 h.2).mono (Nat.le_of_lt h.1)
def T8{ks:List Nat}{id:Nat}{b:Bo}:∀{l:List (Nat×Bo)} {n:Nat},KD l n->look id (Y3 ks l)=some b->look id l=some b
 | [],_,_,h=>h
 | e::l,n,hd,h=>by
   simp only[Y3] at h;split at h;simp only[look] at h ⊢;split at h;exact h;exact T8 hd.2 h;have h1:=T8 hd.2 h;have h2:=fA hd.2 h1;simp only[look];split;rename_i hb;have:=beq_true hb;omega;exact h1
def AS.pick(s:AS)(ks:List Nat):AS:=⟨Y3 ks s.h,s.nx,s.F,s.nr⟩
def St.pick{c:Cx}{w:World}{s:AS}(h:St G c w s)(ks:List Nat):St G c w (s.pick ks) :=
 ⟨h.len,T7 h.desc,h.nodup,h.low,λid g b h1 h2=>h.box id g b h1 (T8 h.desc h2),h.J2,h.row,h.Kv,h.O5,h.OW,h.JZ,h.PB,h.Sd⟩
inductive RnH(dn dr nx nr:Nat):List (Nat×Bo)->List (Nat×Bo)->Prop where
 | nil:RnH dn dr nx nr [] []
 | cons {i:Nat} {b b':Bo} {l m:List (Nat×Bo)} (h:u5 dn dr (λi=>nx+i) (λr=>nr+r) b b') (t:RnH dn dr nx nr l m):RnH dn dr nx nr ((i,b)::l) ((nx+i,b')::m)
def RnH.desc{dn dr nx nr:Nat}{l m h:List (Nat×Bo)}(hr:RnH dn dr nx nr l m)(hh:KD h nx):∀{n:Nat},KD l n->KD (m++h) (nx+n):=by
 induction hr with
 | nil=>intro n _;exact hh.mono (Nat.le_add_right _ _)
 | cons h1 t ih=>intro n hd;exact⟨Nat.add_lt_add_left hd.1 _,ih hd.2⟩
def RnH.look{dn dr nx nr id:Nat}{b:Bo}{l m h:List (Nat×Bo)}(hr:RnH dn dr nx nr l m)(hb:AI.look id (m++h)=some b):(∃i b0,id=nx+i/\AI.look i l=some b0/\u5 dn dr (λi=>nx+i) (λr=>nr+r) b0 b)\/AI.look id h=some b:=by
 induction hr with
 | nil=>exact .inr hb
 | @cons i b0 b1 l m h1 t ih =>
   simp only[List.cons_append,AI.look] at hb;split at hb;rename_i he;cases hb;refine .inl ⟨i,b0,(beq_true he).symm,?_,h1⟩;simp only[AI.look];rw[Nat.beq_refl];rename_i he;have Kw:=beq_false he;rcases ih hb with ⟨i',b',e,h2,h3⟩ | h2
   refine .inl ⟨i',b',e,?_,h3⟩;simp only[AI.look];split;rename_i h4;have:=beq_true h4;omega;exact h2;exact .inr h2
end
end AI
namespace AI
open Go Go.RowKit
section
variable {P:Program} {G:Bc}
def Rx.ai1{α:Type}{f:α->List AV}{C:List α->List AV}{k:Nat}(h:Rx f C k)(h1:∀x,(f x).all one=true)(m:List α):(C m).all one=true:=by
 rw[h.eq,List.all_eq_true];intro a ha;obtain⟨x,_,hx⟩:=List.mem_flatMap.1 ha;exact List.all_eq_true.1 (h1 x) a hx
def Rx.ga{α:Type}{f:α->List AV}{C:List α->List AV}{k:Nat}(h:Rx f C k){t tx e e2 by':Nat}(hu:P.underlying t=some (.slice e))(hux:P.underlying tx=some (.slice e2))(hi:(P.info? e).map (λi=>(i.size,i.bytes,i.zero.map (·.cells.size)))=some (k,by',some k))(hk:0 < k)(hb:by'<=10000)
   (own:Own) (l m:List α) {o:Own} (s:AS) (hm:m.length=0) (hlen:l.length+m.length<=100000000):Cd.ok P G (.WT s t tx (.sl own l.length (C l)) (.sl o m.length (C m)) (.sl own l.length (C l)) s):=by
 have hm0:m=[]:=List.eq_nil_of_length_eq_zero hm;subst hm0;cases hq:P.info? e with
 | none=>rw[hq] at hi;cases hi
 | some i =>
   rw[hq] at hi;simp only[Option.map_some,Option.some.injEq,Prod.mk.injEq] at hi;obtain⟨h1,h2,h3⟩:=hi;cases hz:i.zero with
   | none=>rw[hz] at h3;cases h3
   | some z =>
     rw[hz] at h3;simp only[Option.map_some,Option.some.injEq] at h3;have hc:C []=[]:=by rw[h.eq];rfl
     have wH:(C l).length=l.length*k:=by rw[h.eq,SC h.len]
     refine⟨.sl own l.length (C l),?_,λc w u hr=>hr⟩
     have hs:iK P s i.size tx (.sl o ([]:List α).length (C []))=some (0,[]):=by
       unfold iK;rw[hux,hc];simp
     unfold Mp;simp only[hu,hq,hz];rw[if_pos ⟨by rw[h3,h1],by omega⟩,hs];simp only[List.length_nil] at hlen ⊢
     have sC:(l.length+0)*i.bytes<=140737488355328:=by
       rw[h2];exact Nat.le_trans (Nat.mul_le_mul hlen hb) (by decide)
     rw[if_pos ⟨by rw[wH,h1],rfl,sC,by omega⟩,if_pos trivial]
def aqH{s:AS}{t tx:TypeId}{a b:AV}(h:Cd.ok P G (.WT s t tx a b a s)):PC P G:=⟨.ae a,[.WT s t tx a b a s],⟨h,trivial⟩⟩
end
end AI
namespace AI
open Go Go.RowKit
def ahS:Nat->Nat->List Nat->List Nat
 | 0,_,acc=>acc
 | k+1,n,acc=>match Nat.ble n 1 with
   | true=>acc
   | false=>ahS k (n / 2) (n % 2::acc)
def sb(c:Code)(n:Nat):Code:=sub c (ahS 200 n [])
def wk1(a:AV):AV->AV
 | .any=>n5 a
 | .sl .lost _ _=>(match a with
   | .sl _ n cs=>.sl .lost n cs
   | a=>a)
 | _=>a
def alp{c:Cx}{w:World}{a b:AV}{v:Value}(hr:Rp c w a v):Rp c w (wk1 a b) v:=by
 unfold wk1;split;exact vW hr;split;cases hr with
 | KB _=>exact .KB trivial
 | Ni hn hc _=>exact .Ni hn hc trivial
 exact hr;exact hr
def wkF:List AV->List AV->List AV
 | a::l,b::k=>wk1 a b::wkF l k
 | l,_=>l
def SG{c:Cx}{w:World}:∀{l k:List AV} {vs:List Value},CX c w l vs->CX c w (wkF l k) vs
 | [],k,_,h=>by cases k<;>exact h
 | a::l,[],_,h=>h
 | a::l,b::k,_,h=>by cases h with | cons h1 t=>exact .cons (alp h1) (SG t)
def pV(n:Nat):AV->Bool
 | .fn _ a b=>w7 a&&w7 b
 | a=>obv n a
where
 w7:List AV->Bool
   | []=>true
   | a::l=>obv n a&&w7 l
def Xv{n m:Nat}:∀{l:List AV},pV.w7 n l=true->FI n m l=true
 | [],_=>rfl
 | a::l,h=>by
   simp only[pV.w7,Bool.and_eq_true] at h;simp only[FI,Bool.and_eq_true];refine⟨?_,Xv h.2⟩;have h1:=h.1;cases a<;>simp only[obv] at h1<;>first | rfl | (cases h1;done) | exact decide_eq_true (Nat.le_of_ble_eq_true h1)
def afW{n m:Nat}{a:AV}(h:pV n a=true):Fits n m a a:=by
 cases a with
 | fn f a b =>
   simp only[pV,Bool.and_eq_true] at h;exact .under (by simp only[under,Bool.and_eq_true];exact⟨Xv h.1,Xv h.2⟩)
 | _=>exact akD h
def pM(r:List AV->MR)(n:Nat)(a:AV)(bs:List AV):MR:=match pV n a with
 | true=>tC a (r bs)
 | false=>none
def Z1(n:Nat):List AV->List AV->List AV->MR
 | [],_,[]=>some ([],[])
 | [],_,_::_=>none
 | a::l,[],bs=>tD (Z1 n l []) a bs
 | a::l,b::k,bs=>match Sl b with
   | true=>tD (Z1 n l k) a bs
   | false=>(match pV n b with
     | true=>pM (Z1 n l k) n a bs
     | false=>akt (Z1 n l k) a bs)
def wT{n m:Nat}{r:List AV->MR}{l:List AV}(hr:∀(P6:List (FP n m)) l2,r (nB P6)=some (l2,rX P6)->K7 n m l l2){a:AV}{P6:List (FP n m)}{l2:List AV}(h:pM r n a (nB P6)=some (l2,rX P6)):K7 n m (a::l) l2:=by
 unfold pM at h;split at h;rename_i ho;unfold tC at h;split at h;rename_i l3 as h1;cases h;exact .cons (afW ho) (hr P6 _ h1);cases h;cases h
def afT{n m:Nat}:∀{l k:List AV} {P6:List (FP n m)} {l2:List AV},Z1 n l k (nB P6)=some (l2,rX P6)->K7 n m l l2:=by
 intro l
 induction l with
 | nil =>
   intro k P6 l2 h;cases P6 with
   | nil=>simp only[nB,Z1] at h;cases h;exact .nil
   | cons p P6=>simp only[nB,Z1] at h;cases h
 | cons a l ih =>
   intro k P6 l2 h;cases k with
   | nil=>simp only[Z1] at h;exact j8 (λP6 l2 h=>ih h) h
   | cons b k =>
     simp only[Z1] at h;split at h;exact j8 (λP6 l2 h=>ih h) h;split at h;exact wT (λP6 l2 h=>ih h) h;exact afR (λP6 l2 h=>ih h) h
abbrev FO(n m:Nat):=Option (FB n m)
def y0{n m:Nat}:List (FO n m)->List (Option Bo)
 | []=>[]
 | none::l=>none::y0 l
 | some p::l=>some p.a::y0 l
def oD{n m:Nat}:List (FO n m)->List (Option Bo)
 | []=>[]
 | none::l=>none::oD l
 | some p::l=>some p.b::oD l
def aqD(n:Nat):Bo->Bool
 | .cells cs=>pV.w7 n cs
 | _=>false
abbrev BO:=Option (List (Nat×Bo)×List (Option Bo))
def tJ(id:Nat)(a:Option Bo)(b:Bo):BO->BO
 | some (l,as)=>some ((id,b)::l,a::as)
 | none=>none
def ZR(n:Nat):List (Nat×Bo)->List (Option Bo)->BO
 | [],[]=>some ([],[])
 | e::l,none::bs=>(match aqD n e.2 with
   | true=>tJ e.1 none e.2 (ZR n l bs)
   | false=>none)
 | e::l,some b::bs=>tJ e.1 (some e.2) b (ZR n l bs)
 | _,_=>none
def aeO{n m:Nat}:∀{l:List (Nat×Bo)} {Xm:List (FO n m)} {l2:List (Nat×Bo)},ZR n l (oD Xm)=some (l2,y0 Xm)->(∀k,KD l k->KD l2 k)/\∀id b,look id l2=some b->∃b',look id l=some b'/\Tn n m b' b:=by
 intro l
 induction l with
 | nil =>
   intro Xm l2 h;cases Xm with
   | nil=>simp only[oD,ZR] at h;cases h;exact⟨λ_ _=>trivial,λid b h=>by cases h⟩
   | cons p Xm=>cases p<;>(simp only[oD,ZR] at h;cases h)
 | cons e l ih =>
   intro Xm l2 h
   have fin:∀{Xm:List (FO n m)} {l3:List (Nat×Bo)} {b2:Bo},ZR n l (oD Xm)=some (l3,y0 Xm)->Tn n m e.2 b2->(∀k,KD (e::l) k->KD ((e.1,b2)::l3) k)/\∀id b,look id ((e.1,b2)::l3)=some b->∃b',look id (e::l)=some b'/\Tn n m b' b:=by
     intro Xm l3 b2 h1 hf;obtain⟨hd,hl⟩:=ih h1;refine⟨λk hk=>⟨hk.1,hd _ hk.2⟩,λid b hb=>?_⟩;simp only[look] at hb ⊢;split at hb;cases hb;exact⟨e.2,rfl,hf⟩;exact hl id b hb
   cases Xm with
   | nil=>simp only[oD,ZR] at h;cases h
   | cons p Xm =>
     cases p with
     | none =>
       simp only[oD,ZR] at h;split at h;rename_i ho;unfold tJ at h;split at h;rename_i l3 as h1;simp only[y0,Option.some.injEq,Prod.mk.injEq,List.cons.injEq,true_and] at h;obtain⟨rfl,rfl⟩:=h;refine fin h1 ?_;cases he:e.2 with
       | cells cs=>rw[he] at ho;exact .cells (.under (Xv ho))
       | _=>rw[he] at ho;cases ho
       cases h;cases h
     | some p =>
       simp only[oD,ZR] at h;unfold tJ at h;split at h;rename_i l3 as h1;simp only[y0,Option.some.injEq,Prod.mk.injEq,List.cons.injEq] at h;obtain⟨rfl,h2,rfl⟩:=h;exact fin h1 (by rw[h2];exact p.h);cases h
abbrev RO2:=Option (List AV×AS×List AV×List (Option Bo))
def acL(qR:List AV)(n m:Nat)(Ct:List AV)(s':AS)(bs:List AV)(cs:List (Option Bo)):RO2 :=
 match Z1 n Ct qR bs with
 | some (fr2,as)=>(match ZR n (UQ n s'.h) cs with
   | some (h2,cas)=>some (fr2,⟨h2,n,aI m s'.F,m⟩,as,cas)
   | none=>none)
 | none=>none
section
variable {P:Program} {G:Bc}
def fP(hG:∀g cs,G g=some cs->BS cs=true){qR:List AV}{s0:AS}{Ct:List AV}{s':AS}{P6:List (FP s0.nx s0.nr)}{Xm:List (FO s0.nx s0.nr)}{fr2:List AV}{s2:AS}(h:acL qR s0.nx s0.nr Ct s' (nB P6) (oD Xm)=some (fr2,s2,rX P6,y0 Xm)):zZ G s0 Ct s' fr2 s2:=by
 unfold acL at h;split at h;rename_i f1 as hm;split at h;rename_i h1 cas hb;simp only[Option.some.injEq,Prod.mk.injEq] at h;obtain⟨rfl,rfl,rfl,rfl⟩:=h;intro cx w c' w' vs hx hs CW QV;obtain⟨hd,hl⟩:=aeO hb;refine afa (s:=s0) (s2:=⟨h1,s0.nx,aI s0.nr s'.F,s0.nr⟩) hG rfl rfl (hd _ (aaK CW.desc)) (λid b hb=>?_) (λr n hr=>aaZ hr) (afT hm) cx w c' w' vs hx hs CW QV;obtain⟨b',h3,h4⟩:=hl id b hb;exact⟨b',Yk CW.desc h3,h4⟩;cases h;cases h
def zZ.wk{s0 s':AS}{Ct k:List AV}:zZ G s0 Ct s' (wkF Ct k) s':=λ_ _ c' _ _ hx _ CW QV=>⟨c',hx,CW,SG QV⟩
def xL(qR:List AV):HR->Option (AX×List Cd×List AV×AS)
 | some (.fin e,[],cd,fr,s)=>some (e,cd,wkF fr qR,s)
 | _=>none
def Ho{r:HR}{X:Prop}{L:Code}{s0:AS}{Q:AX->List AV->AS->Prop}{l:List (PC P G)}{fr2:List AV}{s2:AS}(R:VD P G l (Ui P G L s0 Q) r X)(h:xL fr2 r=some (.normal,nF l,fr2,s2))(k:WL P G (XS P G) H0 L fr2 s2 Q):X:=by
 unfold xL at h;split at h;simp only[Option.some.injEq,Prod.mk.injEq] at h;obtain⟨rfl,rfl,h3,rfl⟩:=h;exact R _ _ _ _ rfl (PH l) ⟨_,_,h3▸zZ.wk,k⟩;cases h
def DZ{r:HR}{X:Prop}{L:Code}{s0:AS}{Q:AX->List AV->AS->Prop}{l:List (PC P G)}{id:Nat}{fr2:List AV}{s2:AS}(R:VD P G l (Ui P G L s0 Q) r X)(h:xL fr2 r=some (.exit id,nF l,fr2,s2))(k:Q (.exit id) fr2 s2):X:=by
 unfold xL at h;split at h;simp only[Option.some.injEq,Prod.mk.injEq] at h;obtain⟨rfl,rfl,h3,rfl⟩:=h;exact R _ _ _ _ rfl (PH l) ⟨_,_,h3▸zZ.wk,k⟩;cases h
def aiz(qR:List AV)(n m:Nat)(bs:List AV)(cs:List (Option Bo)):HR->Option (AX×List Cd×List AV×AS×List AV×List (Option Bo))
 | some (.fin e,[],cd,fr,s)=>(match acL qR n m fr s bs cs with
   | some (fr2,s2,as,cas)=>some (e,cd,fr2,s2,as,cas)
   | none=>none)
 | _=>none
def Gq(hG:∀g cs,G g=some cs->BS cs=true){r:HR}{X:Prop}{L:Code}{s0:AS}{Q:AX->List AV->AS->Prop}{l:List (PC P G)}(P6:List (FP s0.nx s0.nr))(Xm:List (FO s0.nx s0.nr)){fr2:List AV}{s2:AS}(R:VD P G l (Ui P G L s0 Q) r X)
   (h:aiz fr2 s0.nx s0.nr (nB P6) (oD Xm) r=some (.normal,nF l,fr2,s2,rX P6,y0 Xm)) (k:WL P G (XS P G) H0 L fr2 s2 Q):X:=by
 unfold aiz at h;split at h;split at h;rename_i h1;simp only[Option.some.injEq,Prod.mk.injEq] at h;obtain⟨rfl,rfl,rfl,rfl,rfl,rfl⟩:=h;exact R _ _ _ _ rfl (PH l) ⟨_,_,fP hG h1,k⟩;cases h;cases h
def am5(n m0:Nat)(P:Program)(fn:Func)(m:Nat)(e0:AX)(qR bs:List AV)(cs:List (Option Bo)):HR->Option (AX×List Cd×List AV×AS×List AV×List (Option Bo))
 | some (.fin e,[],cd,fr,s)=>(match JO P s fn fr with
   | some v=>(match acL qR n m0 [v] (s.cut m) bs cs with
     | some (fr2,s2,as,cas)=>some (e,cd,fr2,s2,as,cas)
     | none=>none)
   | none=>none)
 | _=>none
def Aw(hG:∀g cs,G g=some cs->BS cs=true){r:HR}{X:Prop}{s0:AS}{Q:AX->List AV->AS->Prop}(fn:Func)(m:Nat){l:List (PC P G)}(P6:List (FP s0.nx s0.nr))(Xm:List (FO s0.nx s0.nr)){v:AV}{s2:AS}(R:VD P G l Q r X)
   (h:am5 s0.nx s0.nr P fn m .ret [v] (nB P6) (oD Xm) r=some (.ret,nF l,[v],s2,rX P6,y0 Xm)) (k:RS P G fn m s0 Q v s2):X:=by
 unfold am5 at h;split at h;split at h;rename_i v' hv;split at h;rename_i h1;simp only[Option.some.injEq,Prod.mk.injEq] at h;obtain⟨rfl,rfl,rfl,rfl,rfl,rfl⟩:=h;exact R _ _ _ _ rfl (PH l) (k _ _ (fP hG h1) _ _ hv rfl);cases h;cases h;cases h
def alA(z:List NZ)(qR:List AV):HR->Option (List Cd×Nat×Code×List KI×List AV×AS)
 | some (.at id c ks,[],cd,fr,s)=>(match nzs z fr s with
   | some (fr2,s2)=>some (cd,id,c,ks,wkF fr2 qR,s2)
   | none=>none)
 | _=>none
def He{r:HR}{X:Prop}{Q:AX->List AV->AS->Prop}{l:List (PC P G)}(z:List NZ)(id:Nat)(L:Code)(Wz:List KI){fr2:List AV}{s2:AS}(R:VD P G l Q r X)
   (h:alA z fr2 r=some (nF l,id,L,Wz,fr2,s2)) (k:WL P G (XS P G) H0 L fr2 s2 (EV id (Ej P G Wz Q))):X:=by
 unfold alA at h;split at h;split at h;rename_i fr3 s3 hz;simp only[Option.some.injEq,Prod.mk.injEq] at h;obtain⟨rfl,rfl,rfl,rfl,h5,rfl⟩:=h;refine R _ _ _ _ rfl (PH l) ?_;obtain⟨e3,fr4,s4,h3,h4⟩:=k;refine⟨e3,fr4,s4,.aiN (λcx w vs hs hr=>?_) h3,h4⟩;obtain⟨c2,x2,XE,r2⟩:=pT hz cx w vs hs hr;exact⟨c2,x2,XE,h5▸SG r2⟩;cases h;cases h
def jv(j:List Value)(k:Nat):Value:=akz j k
def hdv(p:Nat):List (Nat×Value)->Option Value
 | []=>none
 | e::_=>(match Nat.beq e.1 p with | true=>some e.2 | false=>none)
def jsN(j:List Value)(l:List (Nat×Value))(k:Nat):Nat->List Value
 | 0=>[]
 | n+1=>(match hdv k l with
   | some v=>v::jsN j (l.drop 1) (k+1) n
   | none=>jv j k::jsN j l (k+1) n)
def js(n:Nat)(j:List Value)(l:List (Nat×Value)):List Value:=jsN j l 0 n
def frQ:Nat->Nat->List (Nat×AV)->List Nat->Nat->List Value->List AV
 | 0,_,_,_,_,_=>[]
 | n+1,p,l,bs,kb,j=>(match frm.ZV p l with
   | some v=>v::frQ n (p+1) (l.drop 1) bs kb j
   | none=>(match frm.oO p bs with
     | true=>.sc (jv j kb)::frQ n (p+1) l (bs.drop 1) (kb+1) j
     | false=>.any::frQ n (p+1) l bs kb j))
def fr(n:Nat)(l:List (Nat×AV))(bs:List Nat)(j:List Value):List AV:=frQ n 0 l bs 0 j
def exR{δ:Type}(Q:AX->List AV->AS->Prop)(id:Nat)(F:δ->List Value->List AV)(S:δ->AS)(d:δ):Prop:=∀j,Q (.exit id) (F d j) (S d)
section loops
variable {α γ δ ρ β:Type} {id:Nat} {L:Code} {Wz:List KI} {Q:AX->List AV->AS->Prop} {done:γ->δ} {X:Prop} {k:δ->Option β} {kr:ρ->Option β} {r:β}
def R9(Rv:(AX->List AV->AS->Prop)->ρ->Prop){body:Nat->α->γ->Option (Lp γ δ ρ)}{l:List α}{i0:Nat}{x:γ}(F:Nat->γ->List Value->List AV)(S:γ->AS)(XF:δ->List Value->List AV)(SX:δ->AS)(j:List Value)
   (R2:WL P G (XS P G) H0 L (F i0 x j) (S x) (EV id (Ej P G Wz Q))->X)
   (hz:∀i x j,l.length<=i->exR (EV id (Ej P G Wz Q)) id XF SX (done x)->W P G (XS P G) H0 L (F i x j) (S x) (Ui P G L (S x) (EV id (Ej P G Wz Q))))
   (hs:∀i y x j r,l[i]?=some y->i < l.length->i < 9223372036854775807->RQ (λx'=>∀j',WL P G (XS P G) H0 L (F (i+1) x' j') (S x') (EV id (Ej P G Wz Q))) (exR (EV id (Ej P G Wz Q)) id XF SX) (Rv (EV id (Ej P G Wz Q))) r->body i y x=some r->W P G (XS P G) H0 L (F i x j) (S x) (Ui P G L (S x) (EV id (Ej P G Wz Q))))
   (hb:∀d j,k d=some r->Ej P G Wz Q .normal (XF d j) (SX d)) (hr:∀v,kr v=some r->Rv (EV id (Ej P G Wz Q)) v) :
   (TA l.length (C8 body done (l.drop i0) i0 x)).bind (MN k kr)=some r->X:=λh=>by
 obtain⟨fO,h1,h2⟩:=iO h;obtain⟨hl,h1⟩:=aqz h1;refine R2 (aeF l F (λ_ x _=>S x) (λ_=>True) (exR (EV id (Ej P G Wz Q)) id XF SX) (Rv (EV id (Ej P G Wz Q))) (λi x j _ h3 h4=>cY (hz i x j h3 h4)) (λi y x j r _ h3 h4 h5 h6=>cY (hs i y x j r h3 h4 (by omega) (by cases r with | nx _=>exact λj'=>h6 j' trivial | ex _=>exact h6 | rt _=>exact h6) h5)) i0 h1 ?_ j trivial)
 cases fO with
 | inl d =>
   intro j;show Ej P G Wz Q (Fa id (.exit id)) _ _;rw[show Fa id (.exit id)=.normal from by simp[Fa]];exact hb d j h2
 | inr v=>exact hr v h2
def Pw(Rv:(AX->List AV->AS->Prop)->ρ->Prop){body:γ->Option (Lp γ δ ρ)}{x:γ}(F:γ->List Value->List AV)(S:γ->AS)(XF:δ->List Value->List AV)(SX:δ->AS)(j:List Value)
   (R2:WL P G (XS P G) H0 L (F x j) (S x) (EV id (Ej P G Wz Q))->X)
   (hs:∀x j r,RQ (λx'=>∀j',WL P G (XS P G) H0 L (F x' j') (S x') (EV id (Ej P G Wz Q))) (exR (EV id (Ej P G Wz Q)) id XF SX) (Rv (EV id (Ej P G Wz Q))) r->body x=some r->W P G (XS P G) H0 L (F x j) (S x) (Ui P G L (S x) (EV id (Ej P G Wz Q))))
   (hb:∀d j,k d=some r->Ej P G Wz Q .normal (XF d j) (SX d)) (hr:∀v,kr v=some r->Rv (EV id (Ej P G Wz Q)) v) :
   (Mg body x).bind (MN k kr)=some r->X:=λh=>by
 obtain⟨fO,h1,h2⟩:=iO h;obtain⟨n,h1⟩:=ae8 h1;refine R2 (aeG F (λx _=>S x) (λ_=>True) (exR (EV id (Ej P G Wz Q)) id XF SX) (Rv (EV id (Ej P G Wz Q))) (λx j r _ h5 h6=>cY (hs x j r (by cases r with | nx _=>exact λj'=>h6 j' trivial | ex _=>exact h6 | rt _=>exact h6) h5)) n h1 ?_ j trivial)
 cases fO with
 | inl d =>
   intro j;show Ej P G Wz Q (Fa id (.exit id)) _ _;rw[show Fa id (.exit id)=.normal from by simp[Fa]];exact hb d j h2
 | inr v=>exact hr v h2
end loops
def HH{ks:List KI}{fr:List AV}{s:AS}{Q:AX->List AV->AS->Prop}(n:Nat)(l:List (PC P G)):VD P G l Q (RU (TS P G n) ks .normal (pHs l) fr s) (Ej P G ks Q .normal fr s):=λ_ _ _ _ h hc hk=>dX (dZ n) ks _ h hc hk
def pi{i:Nat}(h:i < 9223372036854775807):PC P G:=aqI i h
def bp{n m:Nat}{a:List AV}(h:BS a=true):FO n m:=some ⟨.cells a,.cells a,.cells (.plain h)⟩
def bu{n m:Nat}(a:List AV)(h:FI n m a=true):FO n m:=some ⟨.cells a,.cells a,.cells (.under h)⟩
def bw{n m:Nat}(a b:Bo)(h:Tn n m a b):FO n m:=some ⟨a,b,h⟩
end
end AI
namespace AI
open Go Go.RowKit
section
variable {P:Program} {G:Bc}
def ahM(G:Bc)(s:AS)(a v:AV):Prop:=∀(c:Cx) (w:World) (u:Value),St G c w s->(∀g,some g∈c.DD->∀i,¬c.bad g i)->Rp c w a u->Rp (c.upto 0 0) w v u
inductive Fz(s:AS):List AV->List AV->Prop where
 | nil:Fz s [] []
 | r {a b:AV} {l k:List AV} (h:Fits 0 0 a b) (t:Fz s l k):Fz s (a::l) (b::k)
 | f {id n:Nat} {cs l k:List AV} (h:s.get id=some (.cells cs)) (hp:BS cs=true) (t:Fz s l k):Fz s (.Og id 0 n::l) (.sl .lost n cs::k)
 | g {cs ds l k:List AV} (h:Fz s cs ds) (t:Fz s l k):Fz s (.agg cs::l) (.agg ds::k)
 | u {cs ds l k:List AV} (h:Fz s cs ds) (t:Fz s l k):Fz s (.C6 cs::l) (.C6 ds::k)
def Fz.ok{s:AS}{c:Cx}{w:World}(hs:St G c w s)(hb:∀g,some g∈c.DD->∀i,¬c.bad g i){l k:List AV}(h:Fz s l k):∀{us:List Value},CX c w l us->CX (c.upto 0 0) w k us:=by
 induction h with
 | nil=>intro us hr;cases hr;exact .nil
 | r h _ ih=>intro us hr;cases hr with | cons h1 t=>exact .cons (h _ _ _ h1) (ih t)
 | @f id n cs l k h hp _ ih =>
   intro us hr;cases hr with
   | cons h1 t =>
     refine .cons ?_ (ih t);cases h1 with
     | @Og _ _ _ g cap hn hid =>
       obtain⟨vs,ext,T,hw,hv⟩:=SM hs hid h;have hg:=List.mem_of_getElem? hid
       have NE:∀g i v,PW c w g i v->PW (c.upto 0 0) w g i v:=λg i v hv=>⟨hv.1,λK0=>by
         rcases K0 with K0 | ⟨r,n',CC,PX,hr,_⟩ | K0
         simp[Cx.upto] at K0;simp[Cx.upto] at hr;exact hv.2.1 (.inr (.inr K0)),hv.2.2⟩
       refine .Ni hn (Bk.Q6 (CX.plain NE hp hv) (λi v hi=>?_)) trivial;rw[Nat.zero_add];refine⟨hs.O5 g hg,λK0=>?_,cell_of_heap hw (Xh hi)⟩;rcases K0 with K0 | ⟨r,n',CC,PX,hr,_⟩ | K0
       simp[Cx.upto] at K0;simp[Cx.upto] at hr;exact hb g hg i K0
 | g _ _ pB ih2=>intro us hr;cases hr with | cons h1 t=>cases h1 with | agg h2=>exact .cons (.agg (pB h2)) (ih2 t)
 | u _ _ pB ih2=>intro us hr;cases hr with | cons h1 t=>cases h1 with | C6 h2=>exact .cons (.C6 (pB h2)) (ih2 t)
def ahM.of{s:AS}{a v:AV}(h:Fz s [a] [v]):ahM G s a v:=λc w u hs hb hr=>by
 have:=h.ok hs hb (.cons hr .nil);cases this with
 | cons h1 _=>exact h1
end
end AI
namespace AI
open Go
end AI
namespace AI
open Go Go.RowKit
end AI
namespace AI
open Go Go.RowKit
abbrev EW:=Cx->World->Prop
abbrev QE:=AX->List AV->AS->EW->Prop
def EOk(e:AX)(fr:List AV)(c:Cx)(w:World)(e':Exit)(a:Act):Prop:=match e with
 | .normal=>e'=.normal/\CX c w fr a.tmps.toList
 | .exit id=>e'=.exit id/\CX c w fr a.tmps.toList
 | .ret=>e'=.ret/\CX c w fr a.tmps.toList
 | .JI v=>∃u,e'=.panic [{ v:=u,recovered:=false }]/\Rp c w v u
def EPost(G:Bc)(Q:QE)(K:Exit->Act->World->Prop):Prop:=∀e fr s E,Q e fr s E->∀(cx:Cx) (w:World) (a:Act) (e':Exit),E cx w->St G cx w s->a.defers=[]->EOk e fr cx w e' a->K e' a w
def WE(P:Program)(G:Bc)(E:EW)(c:Code)(fr:List AV)(s:AS)(Q:QE):Prop:=∀(cx:Cx) (w:World) (a:Act) (K:Exit->Act->World->Prop),E cx w->St G cx w s->CX cx w fr a.tmps.toList->a.defers=[]->EPost G Q K->c.wp P K a w
def Uy(P:Program)(G:Bc)(E:EW)(ops:Array Oper)(l:List Nat)(fr:List AV)(s:AS)(Q:QE):Prop:=∀(cx:Cx) (w:World) (a:Act) (K:Exit->Act->World->Prop),E cx w->St G cx w s->CX cx w fr a.tmps.toList->a.defers=[]->EPost G Q K->wpOps P ops K l a w
def Wh(E:EW):Prop:=∀(cx:Cx) (w:World) (RT:Cx) (w':World),E cx w->Ext cx w RT w'->E RT w'
def EOk.Qi{e:AX}{fr:List AV}{c:Cx}{w:World}{e':Exit}{a:Act}(h:EOk e fr c w e' a)(he:e≠.normal):e'≠.normal:=by
 cases e with
 | normal=>exact absurd rfl he
 | exit id=>intro h5;rw[h.1] at h5;cases h5
 | ret=>intro h5;rw[h.1] at h5;cases h5
 | JI v=>obtain⟨u,h5,_⟩:=h;intro h6;rw[h5] at h6;cases h6
section
variable {P:Program} {G:Bc} {E:EW} {fr:List AV} {s:AS} {Q:QE}
def WE.of(hm:P.follows .mixedOrders=true)(hk:Wh E){c:Code}{Q0:AX->List AV->AS->Prop}(h:W P G (XS P G) H0 c fr s Q0)(hQ:∀e Ct s',Q0 e Ct s'->Q e Ct s' E):WE P G E c fr s Q:=by
 obtain⟨e,Ct,s',hj,hq⟩:=h;have hS:=sound (TQ hm) hj;intro cx w a K hE hs hf hd hK;refine hS cx w a K hs hf hd ?_;rintro e' a' w' ⟨c',hx,CW,SS,h4⟩;refine hK e Ct s' E (hQ _ _ _ hq) c' w' a' e' (hk _ _ _ _ hE hx) CW SS ?_;cases e<;>exact h4
def WE.seq{x y:Code}(h:WE P G E x fr s (λe Ct s' E'=>(e=.normal/\WE P G E' y Ct s' Q)\/(e≠.normal/\Q e Ct s' E'))):WE P G E (.seq x y) fr s Q:=by
 intro cx w a K hE hs hf hd hK;refine wp_seq (h cx w a _ hE hs hf hd ?_);rintro e Ct s' E' hq RT w' a' e' oF CW SS Xq;rcases hq with ⟨rfl,h2⟩ | ⟨Kw,hq⟩
 obtain⟨rfl,YA⟩:=Xq;exact h2 RT w' a' K oF CW YA SS hK;exact Vk (Xq.Qi Kw) (hK _ _ _ _ hq _ _ _ _ oF CW SS Xq)
def WE.cond{q:Operand}{x y:Code}{t:Bool}(hq:Bg G fr q=some (.sc (.bool t)))(h:WE P G E (if t then x else y) fr s Q):WE P G E (.cond q x y) fr s Q:=by
 intro cx w a K hE hs hf hd hK;have hr:=Gn hs hf hq
 have I5:a.eval q=.bool t:=by
   generalize a.eval q=v at hr;cases hr;rfl
 exact wp_cond I5 (h cx w a K hE hs hf hd hK)
def WE.skip(h:Q .normal fr s E):WE P G E .skip fr s Q:=λcx w a K hE hs hf hd hK=>wp_skip (hK _ _ _ _ h cx w a _ hE hs hd ⟨rfl,hf⟩)
def WE.exit{id:Nat}(h:Q (.exit id) fr s E):WE P G E (.exit id) fr s Q:=λcx w a K hE hs hf hd hK=>wp_exit (hK _ _ _ _ h cx w a _ hE hs hd ⟨rfl,hf⟩)
def WE.block{id:Nat}{c:Code}(h:WE P G E c fr s (λe Ct s' E'=>Q (Fa id e) Ct s' E')):WE P G E (.block id c) fr s Q:=by
 intro cx w a K hE hs hf hd hK;refine wp_block (h cx w a _ hE hs hf hd ?_);rintro e Ct s' E' hq RT w' a' e' oF CW SS h4;cases e with
 | normal=>obtain⟨rfl,h5⟩:=h4;exact hK _ _ _ _ hq RT w' a' _ oF CW SS ⟨rfl,h5⟩
 | exit RC =>
   obtain⟨rfl,h5⟩:=h4;show if RC=id then K .normal a' w' else K (.exit RC) a' w'
   by_cases hid:RC=id;rw[if_pos hid];refine hK _ _ _ _ hq RT w' a' _ oF CW SS ?_;simp only[Fa,hid,if_true];exact⟨rfl,h5⟩;rw[if_neg hid];refine hK _ _ _ _ hq RT w' a' _ oF CW SS ?_;simp only[Fa,hid,if_false];exact⟨rfl,h5⟩
 | ret=>obtain⟨rfl,h5⟩:=h4;exact hK _ _ _ _ hq RT w' a' _ oF CW SS ⟨rfl,h5⟩
 | JI v=>obtain⟨u,rfl,h5⟩:=h4;exact hK _ _ _ _ hq RT w' a' _ oF CW SS ⟨u,rfl,h5⟩
def WE.loop{L:Code}(I:Nat->List AV->AS->EW->Prop)(h:∀m fr s E,I m fr s E->WE P G E L fr s (λe Ct s' E'=>(e=.normal/\∃m',m' < m/\I m' Ct s' E')\/(e≠.normal/\Q e Ct s' E'))){m:Nat}(hi:I m fr s E):WE P G E (.loop L) fr s Q:=by
 have key:∀(n m:Nat) (fr:List AV) (s:AS) (E:EW),m < n->I m fr s E->∀(cx:Cx) (w:World) (a:Act) (K:Exit->Act->World->Prop),E cx w->St G cx w s->CX cx w fr a.tmps.toList->a.defers=[]->EPost G Q K->Code.rounds P L K n a w:=by
   intro n
   induction n with
   | zero=>intro m fr s E hm;omega
   | succ n ih =>
     intro m fr s E hm hi cx w a K hE hs hf hd hK;rw[rounds_succ];refine h m fr s E hi cx w a _ hE hs hf hd ?_;rintro e Ct s' E' hq RT w' a' e' oF CW SS Xq;rcases hq with ⟨rfl,m',hO,NC⟩ | ⟨Kw,hq⟩
     obtain⟨rfl,YA⟩:=Xq;exact ih m' Ct s' E' (by omega) NC RT w' a' K oF CW YA SS hK;exact Vk (Xq.Qi Kw) (hK _ _ _ _ hq _ _ _ _ oF CW SS Xq)
 intro cx w a K hE hs hf hd hK;exact wp_loop_rounds (m+1) (key (m+1) m fr s E (Nat.lt_succ_self m) hi cx w a K hE hs hf hd hK)
def WE.region{id:Nat}{ops:Array Oper}(h:Uy P G E ops (List.range ops.size) fr s Q):WE P G E (.region id ops false) fr s Q:=λcx w a K hE hs hf hd hK=>wp_region (h cx w a K hE hs hf hd hK)
def Uy.nil{ops:Array Oper}(h:Q .normal fr s E):Uy P G E ops [] fr s Q:=λcx w a K hE hs hf hd hK=>hK _ _ _ _ h cx w a .normal hE hs hd ⟨rfl,hf⟩
def Uy.op(hm:P.follows .mixedOrders=true)(hk:Wh E){ops:Array Oper}{i:Nat}{l:List Nat}{o:Oper}(v:AV){s1:AS}(ho:ops[i]?=some o)(hj:J P G (XS P G) H0 (.op ops o fr s (.ret v) s1))(t:Uy P G E ops l (JE fr o.dst v) s1 Q):Uy P G E ops (i::l) fr s Q:=by
 intro cx w a K hE hs hf hd hK;refine QI ho (sound (TQ hm) hj cx w a _ _ hs (λx _=>fF hs hf x) (N3 (c:=cx) (w:=w) (λ_ _ _ _ _=>⟨fr,hf,rfl⟩)) ?_);intro u w' c' hx CW hu;exact t c' w' (a.put o.dst u) K (hk _ _ _ _ hE hx) CW (SK (hf.mono hx) hu) (by cases o.dst<;>exact hd) hK
def Uy.sem{E':EW}{ops:Array Oper}{i:Nat}{l:List Nat}{o:Oper}{fr2:List AV}(v:AV){s2:AS}(ho:ops[i]?=some o)(hg:o.guard=none)
   (h:∀(cx:Cx) (w:World) (a:Act),E cx w->St G cx w s->CX cx w fr a.tmps.toList->∃u w' RT,(execOp a.eval o).run P w=.ok (.value u) w'/\E' RT w'/\St G RT w' s2/\CX RT w' fr2 a.tmps.toList/\Rp RT w' v u)
   (t:Uy P G E' ops l (JE fr2 o.dst v) s2 Q):Uy P G E ops (i::l) fr s Q:=by
 intro cx w a K hE hs hf hd hK;refine QI ho ?_;obtain⟨u,w',RT,hr,oF,CW,YA,hu⟩:=h cx w a hE hs hf;unfold OR;have hw:Region.wanted o (yielded ops a.tmps)=true:=by unfold Region.wanted;rw[hg]
 rw[hw];simp only[if_true];unfold Oper.wp;rw[hr];exact t RT w' (a.put o.dst u) K oF CW (SK YA hu) (by cases o.dst<;>exact hd) hK
end
def aom(b:Nat)(B:Nat->Nat->Prop)(w0:World)(E:EW):Prop:=∀(c:Cx) (w:World),E c w->c.base=b/\Below b w0 w/\(∀g i,B g i->c.bad g i)/\∀g i,some g∈c.DD->c.bad g i->g < b
def E0(b:Nat)(B:Nat->Nat->Prop)(w0:World):EW:=λc w=>c.base=b/\c.bad=B/\Below b w0 w
def E0.U3{b:Nat}{B:Nat->Nat->Prop}{w0:World}:Wh (E0 b B w0):=λcx w RT w' h hx=>⟨hx.base.trans h.1,hx.bad.trans h.2.1,h.2.2.trans (by have:=hx.below;rw[h.1] at this;exact this)⟩
end AI
namespace AI
open Go Go.RowKit
def IS:Code->Array Oper
 | .region _ ops _=>ops
 | _=>#[]
def fM:Code->Nat->Bool
 | .region _ ops d,n=>(match d with
   | false=>Nat.beq ops.size n
   | true=>false)
 | _,_=>false
def aqB:Oper:={ dst:=none,op:=.move (.tmp 0),type:=0,pos:="",after:=#[],guard:=none }
def opAt(c:Code)(i:Nat):Oper:=((IS c)[i]?).getD aqB
def agh{c:Code}{n:Nat}(h:fM c n=true):(∃id,c=.region id (IS c) false)/\(IS c).size=n:=by
 unfold fM at h;split at h;rename_i id ops d;split at h;exact⟨⟨id,rfl⟩,Nat.eq_of_beq_eq_true h⟩;cases h;cases h
def Qk{c:Code}{n i:Nat}(h:fM c n=true)(hi:i < n):(IS c)[i]?=some (opAt c i):=by
 have:=(agh h).2;unfold opAt;rw[Array.getElem?_eq_getElem (by omega)];rfl
def sY(o:Oper):Option (Operand×TypeId):=match o.guard with
 | none=>(match o.op with
   | .call cl=>(match cl.callee with
     | .builtin .len=>(match cl.args.toList with
       | [x]=>(match cl.argTypes.toList with
         | [t]=>some (x,t)
         | _=>none)
       | _=>none)
     | _=>none)
   | _=>none)
 | some _=>none
def iG(o:Oper):Option (Operand×Operand×TypeId×TypeId):=match o.guard with
 | none=>(match o.op with
   | .call cl=>(match cl.callee with
     | .builtin .append=>(match cl.args.toList with
       | [x,y]=>(match cl.argTypes.toList with
         | [t,tx]=>some (x,y,t,tx)
         | _=>none)
       | _=>none)
     | _=>none)
   | _=>none)
 | some _=>none
def aeP(o:Oper):Option (TypeId×Operand):=match o.guard with
 | none=>(match o.op with
   | .buildSlice t n ps=>(match n with
     | 1=>(match ps.toList with
       | [(0,x)]=>some (t,x)
       | _=>none)
     | _=>none)
   | _=>none)
 | some _=>none
section
variable {P:Program} {w:World} {ρ:Operand->Value} {o:Oper}
def wP{x:Operand}{t e:TypeId}{A:Option Addr}{n cap:Nat}(h:sY o=some (x,t))(hu:P.underlying t=some (.slice e))(ha:ρ x=.slice A n cap):o.guard=none/\(execOp ρ o).run P w=.ok (.value (.int .i64 n)) w:=by
 unfold sY at h;split at h;rename_i hg;refine⟨hg,?_⟩;split at h;rename_i cl ho;split at h;rename_i IF;split at h;rename_i x' hx;split at h;rename_i t' ht;cases h;have e1:cl.args=#[x]:=by apply Array.ext';rw[hx]
 have e2:cl.argTypes=#[t]:=by apply Array.ext';rw[ht]
 simp[execOp,ho,resolve,IF,e1,e2,invoke,builtin,ha,Builtin.len_,run_underlying hu,goInt];cases h;cases h;cases h;cases h;cases h
def aD{x y:Operand}{t tx:TypeId}{u:Value}{w':World}(h:iG o=some (x,y,t,tx))(hr:∀ty,(Builtin.append_ #[t,tx] ty #[ρ x,ρ y]).run P w=.ok u w'):o.guard=none/\(execOp ρ o).run P w=.ok (.value u) w':=by
 unfold iG at h;split at h;rename_i hg;refine⟨hg,?_⟩;split at h;rename_i cl ho;split at h;rename_i IF;split at h;rename_i x' y' hx;split at h;rename_i t' tx' ht;cases h;have e1:cl.args=#[x,y]:=by apply Array.ext';rw[hx]
 have e2:cl.argTypes=#[t,tx]:=by apply Array.ext';rw[ht]
 simp[execOp,ho,resolve,IF,e1,e2,invoke,builtin,hr];cases h;cases h;cases h;cases h;cases h
def iH{q:Operand×Operand×TypeId×TypeId}(h:iG o=some q):o.guard=none:=by
 unfold iG at h;split at h;rename_i hg;exact hg;cases h
def aan{x:Operand}{t e:TypeId}{i:TypeInfo}{z:Value}(h:aeP o=some (t,x))(hu:P.underlying t=some (.slice e))(hi:P.info? e=some i)(hs:i.size=1)(hz:i.zero=some z)(zK:z.cells.size=1)(hv:(ρ x).cells=#[ρ x]):o.guard=none/\(execOp ρ o).run P w=.ok (.value (.slice (some ⟨w.heap.size,0,none⟩) 1 1)) { w with heap:=w.heap.push (.cells #[ρ x] e) }:=by
 unfold aeP at h;split at h;rename_i hg;refine⟨hg,?_⟩;split at h;rename_i t' n ps ho;split at h;split at h;rename_i x' sJ;cases h;have e1:ps=#[(0,x)]:=by apply Array.ext';rw[sJ]
 have hf:∀B:Array Value,B.size=1->Instr.fill (λi=>some (i,1)) B [(0,ρ x)]=some #[ρ x]:=by
   intro B hB;obtain⟨b,rfl⟩:=Array.size_eq_one_iff.1 hB;simp[Instr.fill,hv]
 have h2:=hf ((Array.range 1).map (z.cells[· % z.cells.size]!)) (by simp);simp only[execOp,ho,e1,Instr.buildSlice,Sem.run_bind,run_underlying hu,Result.andThen_ok,Da hi,hs,Sem.run_ite,zeroValue,typeInfo,run_program,hi,hz,Sem.run_pure,List.map_toArray,List.map_cons,List.map_nil,Nat.mul_one,Nat.one_ne_zero,if_false,gt_iff_lt,show ¬(2 ^ 24 < 1) from by decide,newRow];rw[h2];simp;cases h;cases h;cases h;cases h
end
end AI
namespace AI
open Go Go.RowKit
def kR(ps:List (Nat×Nat)):List AV:=ps.map λp=>.ptr p.1 p.2
def xE(ps:List (Nat×Nat)):(kR ps).length=ps.length:=by simp[kR]
def cX(b:Nat)(B:Nat->Nat->Prop)(w0:World)(g cap:Nat)(ps:List (Nat×Nat)):EW:=λc w =>
 c.base=b/\Below b w0 w/\(∀g' i,c.bad g' i↔(B g' i\/g'=g))/\b<=g/\some g∉c.DD/\(∀(r:Nat) n CC sz,c.rows[r]?≠some (.R1 g n CC sz)) /\
 ∃(vs ext:List Value) (T:TypeId),w.heap[g]?=some (.cells (vs++ext).toArray T (0,0))/\vs.length+ext.length=cap/\CX c w (kR ps) vs
def cX.U3{b:Nat}{B:Nat->Nat->Prop}{w0:World}{g cap:Nat}{ps:List (Nat×Nat)}:Wh (cX b B w0 g cap ps):=by
 rintro cx w RT w' ⟨h1,h2,h3,h4,h5,h6,vs,ext,T,h7,h8,h9⟩ hx;have hg:g < w.heap.size:=(Array.getElem?_eq_some_iff.1 h7).1;refine⟨hx.base.trans h1,h2.trans (by have:=hx.below;rwa[h1] at this),λg' i=>by rw[hx.bad];exact h3 g' i,h4,λhm=>?_,λr n CC sz hr=>?_,vs,ext,T,by rw[hx.U3 g hg h5 h6];exact h7,h8,h9.mono hx⟩;rcases hx.kQ g hm with h | h
 exact h5 h;omega;rcases hx.lB r g n CC sz hr with ⟨r0,n0,Sg,lT,h⟩ | h
 exact h6 _ _ _ _ h;omega
def cX.fin{b:Nat}{B:Nat->Nat->Prop}{w0:World}{g cap:Nat}{ps:List (Nat×Nat)}(hB:∀g i,B g i->g < b):aom b B w0 (cX b B w0 g cap ps):=by
 rintro c w ⟨h1,h2,h3,h4,h5,_⟩;refine⟨h1,h2,λg' i hb=>(h3 g' i).2 (.inl hb),λg' i hg hb=>?_⟩;rcases(h3 g' i).1 hb with h | rfl
 exact hB g' i h;exact absurd hg h5
def St.move{G:Bc}{c c':Cx}{w w':World}{s:AS}(h:St G c w s)(hm:Mon c w c' w')(TV:c'.DD=c.DD)(sL:c'.rows=c.rows)(abr:c'.base=c.base)
   (aia:∀k,k < w.heap.size->(some k∈c.DD\/∃(r:Nat) (n cap sz:Nat),c.rows[r]?=some (.R1 k n cap sz))->w'.heap[k]?=w.heap[k]?) (aii:w.heap.size<=w'.heap.size)
   (NB:∀g i,c'.bad g i->(c.bad g i\/w.heap.size<=g)/\g < w'.heap.size):St G c' w' s:=by
 refine⟨by rw[TV];exact h.len,h.desc,by rw[TV];exact h.nodup,by rw[TV,abr];exact h.low,λid g b h1 h2=>?_,by rw[sL];exact h.J2,λr g n cap sz hr=>?_,by rw[sL];exact h.Kv,λg hg=>Nat.lt_of_lt_of_le (h.O5 g (by rwa[TV] at hg)) aii,λg i hb=>(NB g i hb).2,by rw[sL];exact h.JZ,λg cs hg=>(h.PB g cs hg).DG hm,by rw[abr];exact Nat.le_trans h.Sd aii⟩;rw[TV] at h1;obtain⟨o,ho,hb⟩:=h.box id g b h1 h2;exact⟨o,by rw[aia g (Array.getElem?_eq_some_iff.1 ho).1 (.inl (List.mem_of_getElem? h1))];exact ho,hb.DG hm⟩;rw[sL] at hr;obtain⟨a1,a2,a3,a4,vs,T,a5,a6⟩:=h.row r g n cap sz hr;have Gm:=h.Rf hr;refine⟨λi hb=>?_,by rw[abr];exact a2,by rw[TV];exact a3,a4,vs,T,by rw[aia g Gm (.inr ⟨r,n,cap,sz,hr⟩)];exact a5,a6⟩;rcases(NB g i hb).1 with h1 | h1
 exact a1 i h1;omega
section
variable {P:Program} {G:Bc} {E:EW} {fr:List AV} {s:AS} {Q:QE}
def Uy.ane{ι:Type}{E':ι->EW}{ops:Array Oper}{i:Nat}{l:List Nat}{o:Oper}{fr2:List AV}(v:ι->AV){s2:AS}(ho:ops[i]?=some o)(hg:o.guard=none)
   (h:∀(cx:Cx) (w:World) (a:Act),E cx w->St G cx w s->CX cx w fr a.tmps.toList->∃x u w' RT,(execOp a.eval o).run P w=.ok (.value u) w'/\E' x RT w'/\St G RT w' s2/\CX RT w' fr2 a.tmps.toList/\Rp RT w' (v x) u)
   (t:∀x,Uy P G (E' x) ops l (JE fr2 o.dst (v x)) s2 Q):Uy P G E ops (i::l) fr s Q:=by
 intro cx w a K hE hs hf hd hK;refine QI ho ?_;obtain⟨x,u,w',RT,hr,oF,CW,YA,hu⟩:=h cx w a hE hs hf;unfold OR;have hw:Region.wanted o (yielded ops a.tmps)=true:=by unfold Region.wanted;rw[hg]
 rw[hw];simp only[if_true];unfold Oper.wp;rw[hr];exact t x RT w' (a.put o.dst u) K oF CW (SK YA hu) (by cases o.dst<;>exact hd) hK
variable {c:Code} {n i:Nat} {l:List Nat}
def Uy.len{x:Operand}{t e:TypeId}{A:Option Addr}{k cap:Nat}(hr:fM c n=true)(hi:i < n)(h:sY (opAt c i)=some (x,t))(hu:P.underlying t=some (.slice e))(ha:Bg G fr x=some (.raw A k cap))
   (j:Uy P G E (IS c) l (JE fr (opAt c i).dst (.sc (.int .i64 k))) s Q):Uy P G E (IS c) (i::l) fr s Q:=by
 have hgd:(opAt c i).guard=none:=by
   unfold sY at h;split at h;rename_i hg;exact hg;cases h
 refine .sem (.sc (.int .i64 k)) (Qk hr hi) hgd (λcx w a hE hs hf=>?_) j;have hv:=Gn hs hf ha;generalize hq:a.eval x=v at hv;cases hv;exact⟨_,w,cx,(wP h hu hq).2,hE,hs,hf,.sc rfl⟩
variable {b g cap:Nat} {B:Nat->Nat->Prop} {w0:World} {ps:List (Nat×Nat)} {p:Nat×Nat}
def Uy.push{t tx e e2 id off:TypeId}{x y:Operand}(hr:fM c n=true)(hi:i < n)(h:iG (opAt c i)=some (x,y,t,tx))(hu:P.underlying t=some (.slice e))(hux:P.underlying tx=some (.slice e2))
   (he:(P.info? e).map (λi=>(i.size,decide (i.bytes<=10000),i.zero.map (·.cells.size)))=some (1,true,some 1)) (ha:Bg G fr x=some (.raw (some ⟨g,0,none⟩) ps.length cap)) (hy:Bg G fr y=some (.sl .full 1 [.ptr id off])) (hlen:ps.length+1<=100000000)
   (j:∀g' CC,Uy P G (cX b B w0 g' CC (ps++[(id,off)])) (IS c) l (JE fr (opAt c i).dst (.raw (some ⟨g',0,none⟩) (ps++[(id,off)]).length CC)) s Q):Uy P G (cX b B w0 g cap ps) (IS c) (i::l) fr s Q:=by
 cases hie:P.info? e with
 | none=>rw[hie] at he;cases he
 | some ie =>
 rw[hie] at he;simp only[Option.map_some,Option.some.injEq,Prod.mk.injEq,decide_eq_true_eq] at he;obtain⟨Qc,hby,hzz⟩:=he;obtain⟨z,hz,zK⟩:=Option.map_eq_some_iff.1 hzz;refine .ane (ι:=Nat×Nat) (E':=λq=>cX b B w0 q.1 q.2 (ps++[(id,off)])) (λq=>.raw (some ⟨q.1,0,none⟩) (ps++[(id,off)]).length q.2) (Qk hr hi) (iH h) (λcx w a hE hs hf=>?_) (λq=>j q.1 q.2);have hva:=Gn hs hf ha;have hvy:=Gn hs hf hy;generalize hqa:a.eval x=va at hva;generalize hqy:a.eval y=vy at hvy;cases hva;obtain⟨h1,h2,h3,h4,h5,h6,vs,ext,T,h7,h8,h9⟩:=hE;have hg:g < w.heap.size:=(Array.getElem?_eq_some_iff.1 h7).1;have hl:=h9.len;rw[xE] at hl;obtain⟨news,hnr,Xp,hsi⟩:=rF (P:=P) (s:=s) (size:=ie.size) (tx:=tx) (n:=1) (cs:=[.ptr id off]) hs (by unfold iK;rw[hux,Qc];rfl) hvy;rw[Qc,Nat.mul_one] at Xp;have ap3:∀g' i v,PW cx w g' i v->g'≠g:=λg' i v hv e=>hv.2.1 (.inr (.inr ((h3 g' i).2 (.inr e))))
 have aic:∀{RT:Cx} {w':World},Mon cx w RT w'->CX RT w' (kR (ps++[(id,off)])) (vs++news):=λhm=>by
   unfold kR at h9 ⊢;rw[List.map_append];exact(h9.DG hm).append (hnr.DG hm)
 by_cases UZ:ps.length+1<=cap;have afp:ps.length+news.length<=(vs++ext).toArray.size:=by rw[Xp,List.size_toArray,List.length_append];omega
 have GC:=run_storeCells_at P g ps.length T news 0 (vs++ext).toArray w h7 (by simpa using afp) (Xw hnr rfl)
 simp only[Nat.add_zero] at GC;have TU:=setRow_heap w g (vs++ext).toArray ((vs++ext).toArray.toList.take ps.length++news++(vs++ext).toArray.toList.drop (ps.length+news.length)).toArray T (0,0) h7;have hc:=H3 w g ((vs++ext).toArray.toList.take ps.length++news++(vs++ext).toArray.toList.drop (ps.length+news.length)).toArray
 have ajH:((vs++ext).toArray.toList.take ps.length++news++(vs++ext).toArray.toList.drop (ps.length+news.length))=(vs++news)++ext.drop 1:=by
   simp only[List.toList_toArray];rw[List.take_left' hl,Xp,List.drop_append];rw[List.drop_eq_nil_of_le (by omega),List.nil_append,show ps.length+1 - vs.length=1 by omega]
 rw[ajH] at TU GC hc;have hm:Mon cx w cx (w.setRow g ((vs++news)++ext.drop 1).toArray):=⟨λ_ _ h=>h,Nat.le_refl _,λr y _ h=>⟨y,h,Lq.refl y⟩,λg' i v hv=>⟨Nat.lt_of_lt_of_le hv.1 hc.size,hv.2.1,by rw[hc.cell hv.1 (ap3 g' i v hv)];exact hv.2.2⟩⟩
 refine⟨(g,cap),_,_,cx,(aD h (λty=>by
   rw[hqa,hqy];exact Rh (ty:=ty) hu hie hsi UZ (w':=w.setRow g ((vs++news)++ext.drop 1).toArray) (λa ha=>by cases ha;rw[add_lit,Nat.zero_add,Qc,Nat.mul_one];exact GC) (λh=>by cases h))).2,⟨h1,h2.trans (hc.below (by rw[<- h1];exact hs.Sd) (λk hk=>by rw[hk];exact h4)),h3,h4,h5,h6,vs++news,ext.drop 1,T,TU,?_,aic hm⟩,hs.move hm rfl rfl rfl (λk hk hor=>hc.block k hk (λe=>?_)) hc.size (λg' i hb=>⟨.inl hb,Nat.lt_of_lt_of_le (hs.OW g' i hb) hc.size⟩),hf.DG hm,?_⟩
 rw[List.length_append,List.length_drop];omega;subst e;rcases hor with h | ⟨r,n',CC,sz,h⟩
 exact h5 h;exact h6 _ _ _ _ h;rw[List.length_append];exact .raw
 have hfc:(Builtin.firstCells ie.size ps.length (.slice (some ⟨g,0,none⟩) ps.length cap)).run P { w with drawn:=w.drawn+1 }=.ok vs.toArray { w with drawn:=w.drawn+1 }:=by
   rw[Qc];refine run_firstCells_some { w with drawn:=w.drawn+1 } 1 ps.length ⟨g,0,none⟩ ps.length cap vs (by omega) (λj v hj=>?_)
   rw[add_lit,Nat.zero_add];exact cell_of_heap h7 (Xh hj)
 have ajG:(ps.length+1)*ie.bytes<=140737488355328:=Nat.le_trans (Nat.mul_le_mul hlen hby) (by decide)
 have hex:∃CC,ps.length+1<=CC/\∀ty,(Builtin.append_ #[t,tx] ty #[.slice (some ⟨g,0,none⟩) ps.length cap,vy]).run P w=.ok (.slice (some ⟨w.heap.size,0,none⟩) (ps.length+1) CC) { w with drawn:=w.drawn+1,heap:=w.heap.push (.cells ((vs++news).toArray++Builtin.zeroCells z.cells (CC - (ps.length+1))) e) }:=by
   obtain⟨CC,hc',U0⟩:=Vf (ty:=0) hu hie hz hsi hfc (by omega) (by omega) ajG;exact⟨CC,hc',λty=>U0⟩
 obtain⟨CC,sD,U0⟩:=hex;have hzc:(Builtin.zeroCells z.cells (CC - (ps.length+1))).size=CC - (ps.length+1):=by rw[size_zeroCells,zK,Nat.mul_one]
 let w':World:={ w with drawn:=w.drawn+1,heap:=w.heap.push (.cells ((vs++news).toArray++Builtin.zeroCells z.cells (CC - (ps.length+1))) e) }
 have hk:SI w w' (λ_=>False):=⟨rfl,rfl,rfl,by simp[w'],λk hk _=>by simp[w',Array.getElem?_push];intro h;omega⟩
 have TU:w'.heap[w.heap.size]?=some (.cells ((vs++news)++(Builtin.zeroCells z.cells (CC - (ps.length+1))).toList).toArray e (0,0)):=by
   have:w'.heap[w.heap.size]?=some (.cells ((vs++news).toArray++Builtin.zeroCells z.cells (CC - (ps.length+1))) e (0,0)):=by simp[w']
   rw[this];congr 2;apply Array.ext';simp
 let RT:Cx:={ cx with bad:=λg' i=>B g' i\/g'=w.heap.size }
 have hBs:∀g' i,B g' i->g' < w.heap.size:=λg' i hb=>hs.OW g' i ((h3 g' i).2 (.inl hb));have hm:Mon cx w RT w':=⟨λ_ _ h=>h,Nat.le_refl _,λr y _ h=>⟨y,h,Lq.refl y⟩,λg' i v hv=>⟨Nat.lt_of_lt_of_le hv.1 hk.size,λK0=>?_,by rw[hk.cell hv.1 not_false];exact hv.2.2⟩⟩;have ap7:w'.heap.size=w.heap.size+1:=by simp[w']
 refine⟨(w.heap.size,CC),_,w',RT,(aD h (λty=>by rw[hqa,hqy];exact U0 ty)).2,⟨h1,h2.trans (hk.below (by rw[<- h1];exact hs.Sd) (λ_ h=>h.elim)),λ_ _=>Iff.rfl,by rw[<- h1];exact hs.Sd,λhO=>?_,λr n' c' sz ZM=>?_,vs++news,_,e,TU,?_,aic hm⟩,hs.move hm rfl rfl rfl (λk zF _=>hk.block k zF not_false) hk.size (λg' i hb=>?_),hf.DG hm,?_⟩;have:=hs.O5 _ hO;omega;have:=hs.Rf ZM;omega;have hz3:(Builtin.zeroCells z.cells (CC - (ps.length+1))).toList.length=CC - (ps.length+1):=by rw[Array.length_toList,hzc]
 show(vs++news).length+_=CC;rw[hz3,List.length_append];omega;rcases hb with hb | rfl
 exact⟨.inl ((h3 g' i).2 (.inl hb)),by have:=hBs g' i hb;omega⟩;exact⟨.inr (Nat.le_refl _),by omega⟩;rw[List.length_append];exact .raw;rcases K0 with K0 | K0 | K0
 exact hv.2.1 (.inl K0);exact hv.2.1 (.inr (.inl K0));rcases K0 with K0 | K0
 exact hv.2.1 (.inr (.inr ((h3 g' i).2 (.inl K0))));have:=hv.1;omega
def Uy.begin{t e id off:TypeId}{x:Operand}(hr:fM c n=true)(hi:i < n)(h:aeP (opAt c i)=some (t,x))(hu:P.underlying t=some (.slice e))(he:(P.info? e).map (λi=>(i.size,i.zero.map (·.cells.size)))=some (1,some 1))(ha:Bg G fr x=some (.ptr id off))
   (j:∀g',Uy P G (cX b B w0 g' 1 [(id,off)]) (IS c) l (JE fr (opAt c i).dst (.raw (some ⟨g',0,none⟩) 1 1)) s Q):Uy P G (E0 b B w0) (IS c) (i::l) fr s Q:=by
 cases hie:P.info? e with
 | none=>rw[hie] at he;cases he
 | some ie =>
 rw[hie] at he;simp only[Option.map_some,Option.some.injEq,Prod.mk.injEq] at he;obtain⟨Qc,hzz⟩:=he;obtain⟨z,hz,zK⟩:=Option.map_eq_some_iff.1 hzz
 have hgd:(opAt c i).guard=none:=by
   unfold aeP at h;split at h;rename_i hg;exact hg;cases h
 refine .ane (ι:=Nat) (E':=λq=>cX b B w0 q 1 [(id,off)]) (λq=>.raw (some ⟨q,0,none⟩) 1 1) (Qk hr hi) hgd (λcx w a hE hs hf=>?_) j;have hva:=Gn hs hf ha;generalize hqa:a.eval x=va at hva;obtain⟨h1,h2,h3⟩:=hE;have U0:=(aan (P:=P) (w:=w) (ρ:=a.eval) h hu hie Qc hz zK (by rw[hqa];cases hva;rfl)).2;rw[hqa] at U0;let w':World:={ w with heap:=w.heap.push (.cells #[va] e) }
 have hk:SI w w' (λ_=>False):=N4 w _;let RT:Cx:={ cx with bad:=λg' i=>B g' i\/g'=w.heap.size }
 have hBs:∀g' i,B g' i->g' < w.heap.size:=λg' i hb=>hs.OW g' i (by rw[h2];exact hb);have ap7:w'.heap.size=w.heap.size+1:=by simp[w']
 have hm:Mon cx w RT w':=⟨λ_ _ h=>h,Nat.le_refl _,λr y _ h=>⟨y,h,Lq.refl y⟩,λg' i v hv=>⟨Nat.lt_of_lt_of_le hv.1 hk.size,λK0=>by
   rcases K0 with K0 | K0 | K0
   exact hv.2.1 (.inl K0);exact hv.2.1 (.inr (.inl K0));rcases K0 with K0 | K0
   exact hv.2.1 (.inr (.inr (by rw[h2];exact K0)));have:=hv.1;omega,by rw[hk.cell hv.1 not_false];exact hv.2.2⟩⟩
 refine⟨w.heap.size,_,w',RT,U0,⟨h1,h3.trans (hk.below (by rw[<- h1];exact hs.Sd) (λ_ h=>h.elim)),λ_ _=>Iff.rfl,by rw[<- h1];exact hs.Sd,λhO=>?_,λr n' c' sz ZM=>?_,[va],[],e,by simp[w'],rfl,.cons (hva.DG hm) .nil⟩,hs.move hm rfl rfl rfl (λk zF _=>hk.block k zF not_false) hk.size (λg' i hb=>?_),hf.DG hm,.raw⟩;have:=hs.O5 _ hO;omega;have:=hs.Rf ZM;omega;rcases hb with hb | rfl
 exact⟨.inl (by rw[h2];exact hb),by have:=hBs g' i hb;omega⟩;exact⟨.inr (Nat.le_refl _),by omega⟩
def WE.run(hm:P.follows .mixedOrders=true)(hk:Wh E){c:Code}(l:List (PC P G)){e:AX}{fr2:List AV}{s2:AS}(h:xL fr2 (TS P G 300 c [] (pHs l) fr s)=some (e,nF l,fr2,s2))(hp:∀v,e≠.JI v)(hq:Q e fr2 s2 E):WE P G E c fr s Q:=by
 unfold xL at h;split at h;rename_i e' cd Ct s' hr;simp only[Option.some.injEq,Prod.mk.injEq] at h;obtain⟨rfl,rfl,QV,rfl⟩:=h;have hw:W P G (XS P G) H0 c fr s (λe2 f2 s2=>e2=e'/\f2=Ct/\s2=s'):=Ac 300 l _ _ _ _ hr (PH l) ⟨rfl,rfl,rfl⟩;obtain⟨e1,f1,s1,hj,rfl,rfl,rfl⟩:=hw;have hS:=sound (TQ hm) hj;intro cx w a K hE hs hf hd hK;refine hS cx w a K hs hf hd ?_;rintro e'' a' w' ⟨c',hx,CW,SS,h4⟩;refine hK _ _ _ E hq c' w' a' e'' (hk _ _ _ _ hE hx) CW SS ?_;rw[<- QV];cases e1 with
 | normal=>exact⟨h4.1,SG h4.2⟩
 | exit id=>exact⟨h4.1,SG h4.2⟩
 | ret=>exact⟨h4.1,SG h4.2⟩
 | JI v=>exact absurd rfl (hp v)
 cases h
end
end AI
namespace AI
open Go Go.RowKit
section
variable {P:Program} {G:Bc} {E:EW} {fr:List AV} {s:AS} {Q:QE}
def WE.wk{c:Code}{fr2:List AV}(h:wkF fr fr2=fr2)(k:WE P G E c fr2 s Q):WE P G E c fr s Q:=λcx w a K hE hs hf hd hK=>k cx w a K hE hs (by rw[<- h];exact SG hf) hd hK
def WE.xI{c:Code}{id:Nat}{b b2:Bo}(hb:look id s.h=some b)(hk:∀(cx:Cx) (w:World) (o:Obj),FJ cx w b o->FJ cx w b2 o)(k:WE P G E c fr ⟨uO id b2 s.h,s.nx,s.F,s.nr⟩ Q):WE P G E c fr s Q:=λcx w a K hE hs hf hd hK=>k cx w a K hE (hs.xI hb (λo ho=>hk cx w o ho)) hf hd hK
def Uy.q(hm:P.follows .mixedOrders=true)(hk:Wh E){c:Code}{n i:Nat}{l:List Nat}(hr:fM c n=true)(hi:i < n)(v:AV)(hw:CG (IS c) fr (opAt c i)=true)(h:QK P G fr s (opAt c i)=some (.val v s))(t:Uy P G E (IS c) l (JE fr (opAt c i).dst v) s Q):Uy P G E (IS c) (i::l) fr s Q :=
 .op hm hk v (Qk hr hi) (.Oi hw h) t
def Uy.hb(hm:P.follows .mixedOrders=true)(hk:Wh E){c:Code}{n i:Nat}{l:List Nat}(hr:fM c n=true)(hi:i < n){B:Bool}(b:Bool)(hB:B=b)(h:aM P G (IS c) fr s (opAt c i) [.b b]=some (.sc (.bool b),s,[],[.eqb B b]))(t:Uy P G E (IS c) l (JE fr (opAt c i).dst (.sc (.bool b))) s Q):Uy P G E (IS c) (i::l) fr s Q :=
 .op hm hk (.sc (.bool b)) (Qk hr hi) (PD h ⟨hB,trivial⟩) t
def Uy.hi(hm:P.follows .mixedOrders=true)(hk:Wh E){c:Code}{n i:Nat}{l:List Nat}(hr:fM c n=true)(hi:i < n){X:Int}(z:Int)(hX:X=z)(h:aM P G (IS c) fr s (opAt c i) [.i z]=some (.sc (.int .i64 z),s,[],[.eqi X z]))(t:Uy P G E (IS c) l (JE fr (opAt c i).dst (.sc (.int .i64 z))) s Q):Uy P G E (IS c) (i::l) fr s Q :=
 .op hm hk (.sc (.int .i64 z)) (Qk hr hi) (PD h ⟨hX,trivial⟩) t
def WE.mono{c:Code}{Q2:QE}(h:WE P G E c fr s Q2)(hq:∀e Ct s' E',Q2 e Ct s' E'->Q e Ct s' E'):WE P G E c fr s Q:=λcx w a K hE hs hf hd hK=>h cx w a K hE hs hf hd (λe fr s E h2=>hK e fr s E (hq _ _ _ _ h2))
end
end AI
namespace AI
open Go Go.RowKit
end AI
namespace AI
open Go Go.RowKit
end AI
namespace AI
open Go Go.RowKit
section
variable {P:Program} {G:Bc} {α δ:Type} {enc:α->AV} {encd:δ->AV}
abbrev I4(enc:α->AV)(encd:δ->AV):α⊕δ->CR
 | .inl a=>.ret (enc a)
 | .inr d=>.JI (encd d)
def QL(P:Program)(G:Bc)(fn:Func)(m:Nat)(s0:AS)(enc:α->AV)(encd:δ->AV)(Q:AX->List AV->AS->Prop)(y:α⊕δ)(s2:AS):Prop:=match y with
 | .inl a=>RS P G fn m s0 Q (enc a) s2
 | .inr d=>TI G m s0 Q (encd d) s2
def QL.body{fn:Func}{m:Nat}{s0 s2:AS}{y:α⊕δ}:QL P G fn m s0 enc encd (UJ P fn m (QM G s0 (I4 enc encd y) s2)) y s2:=by
 cases y with
 | inl a=>exact RS.body
 | inr d=>exact TI.body
def QL.outer{fn:Func}{m id:Nat}{ks:List KI}{s0 s2:AS}{Q:AX->List AV->AS->Prop}{y:α⊕δ}(h:QL P G fn m s0 enc encd Q y s2):QL P G fn m s0 enc encd (EV id (Ej P G ks Q)) y s2:=by
 cases y with
 | inl a=>exact RS.outer h
 | inr d=>exact TI.outer h
def QL.Gi{fn:Func}{m:Nat}{L:Code}{s0 s1 s2:AS}{Q:AX->List AV->AS->Prop}{y:α⊕δ}(h:QL P G fn m s0 enc encd Q y s2):QL P G fn m s0 enc encd (Ui P G L s1 Q) y s2:=by
 cases y with
 | inl a=>exact RS.Gi h
 | inr d=>exact TI.Gi h
def af5(n m0:Nat)(m:Nat)(qR bs:List AV)(cs:List (Option Bo)):HR->Option (List Cd×List AV×AS×List AV×List (Option Bo))
 | some (.fin (.JI v),[],cd,_,s)=>(match acL qR n m0 [v] (s.cut m) bs cs with
     | some (fr2,s2,as,cas)=>some (cd,fr2,s2,as,cas)
     | none=>none)
 | _=>none
def BR(hG:∀g cs,G g=some cs->BS cs=true){r:HR}{X:Prop}{s0:AS}{Q:AX->List AV->AS->Prop}(m:Nat){l:List (PC P G)}(P6:List (FP s0.nx s0.nr))(Xm:List (FO s0.nx s0.nr)){v:AV}{s2:AS}(R:VD P G l Q r X)
   (h:af5 s0.nx s0.nr m [v] (nB P6) (oD Xm) r=some (nF l,[v],s2,rX P6,y0 Xm)) (k:TI G m s0 Q v s2):X:=by
 unfold af5 at h;split at h;split at h;rename_i h1;simp only[Option.some.injEq,Prod.mk.injEq] at h;obtain⟨rfl,rfl,rfl,rfl,rfl⟩:=h;exact R _ _ _ _ rfl (PH l) (k _ _ (fP hG h1) _ _ rfl);cases h;cases h
def MA{k j:Nat}{ρ σ:Nat->Nat}(h1:∀a,plain (enc a)=true)(h2:∀d,plain (encd d)=true)(y:α⊕δ):RnR k j ρ σ (I4 enc encd y) (I4 enc encd y):=by
 cases y with
 | inl a=>exact .pl (h1 a)
 | inr d=>exact .pl (h2 d)
def Ti{γ:Type}{f:α->Option γ}{g:δ->Option γ}{y:α⊕δ}{r:γ}{X:Prop}(h1:∀a,y=.inl a->f a=some r->X)(h2:∀d,y=.inr d->g d=some r->X):Sum.elim f g y=some r->X:=by
 cases y with
 | inl a=>exact h1 a rfl
 | inr d=>exact h2 d rfl
def Rx.ixa{α:Type}{f:α->List AV}{C:List α->List AV}{k:Nat}(h:Rx f C k){t elem len:Nat}(hu:P.underlying t=some (.array len elem))(hs:(P.info? elem).map (·.size)=some k){l:List α}(hl:l.length=len){z:Int}{x:α}(hx:Hc l z=some x):DE P t (.el (C l)) (.sc (.int .i64 z))=some (.el (f x++C (l.drop (z.toNat+1)))):=by
 unfold Hc at hx;split at hx;rename_i hz;have hi:=(List.getElem?_eq_some_iff.1 hx).1
 have hn:S7 (.sc (.int .i64 z))=some z.toNat:=by
   unfold S7;simp[hz]
 cases he:P.info? elem with
 | none=>rw[he] at hs;cases hs
 | some e =>
   rw[he] at hs;have hk:e.size=k:=by simpa using hs
   subst hl;unfold DE;rw[hu,hn];simp only[he,hk,if_pos hi];rw[h.eq,h.eq,bQ h.len hx]
 cases hx
def am6(z:List NZ)(qR:List AV):HR->Option (AX×List Cd×List AV×AS)
 | some (.fin e,[],cd,fr,s)=>(match nzs z fr s with
   | some (fr2,s2)=>some (e,cd,wkF fr2 qR,s2)
   | none=>none)
 | _=>none
def Ep{r:HR}{X:Prop}{L:Code}{s0:AS}{Q:AX->List AV->AS->Prop}{l:List (PC P G)}(z:List NZ){fr2:List AV}{s2:AS}(R:VD P G l (Ui P G L s0 Q) r X)(h:am6 z fr2 r=some (.normal,nF l,fr2,s2))(k:WL P G (XS P G) H0 L fr2 s2 Q):X:=by
 unfold am6 at h;split at h;split at h;rename_i fr3 s3 hz;simp only[Option.some.injEq,Prod.mk.injEq] at h;obtain⟨rfl,rfl,h3,rfl⟩:=h;refine R _ _ _ _ rfl (PH l) ⟨_,_,λcx w c' w' vs hx _ CW hr=>?_,k⟩;obtain⟨c2,x2,XE,r2⟩:=pT hz c' w' vs CW hr;exact⟨c2,hx.trans x2,XE,h3▸SG r2⟩;cases h;cases h
def DB{M X:Prop}{L:Code}{fr:List AV}{s:AS}{Q:AX->List AV->AS->Prop}(R2:WL P G (XS P G) H0 L fr s Q->X)(k:M->W P G (XS P G) H0 L fr s (Ui P G L s Q)):M->X:=λh=>R2 (cY (k h))
def eS{M X Y:Prop}(R2:Y->X)(k:M->Y):M->X:=λh=>R2 (k h)
def ppn:PC P G:=⟨.p .any ⟨[],0,[],0⟩,[],trivial⟩
def pzq(c:Nat):PC P G:=⟨.zq c,[],trivial⟩
def af7{f:FuncId}{args Wl:List AV}{v:AV}{pre:List (Nat×Bo)}{tp:List (Nat×Nat)}{Ro:List (Nat×Bo)}{tu:List (Nat×Nat)}(w:Wn args Wl)(h:Cd.ok P G (.Ff f Wl (.JI v) pre tp Ro tu)):PC P G :=
 ⟨.q v pre tp Ro tu,[.Ff f args (.JI v) pre tp Ro tu,.yZ (OQ pre) (OQ pre) (Pn tp) (Pn tp)],⟨λs h1 h2 cx wd vs hs ha=>h s h1 h2 cx wd vs hs (w.ok ha),⟨rfl,rfl⟩,trivial⟩⟩
end
end AI
namespace AI
open Go
section
variable {α γ δ ρ:Type}
def allI(p:Nat->α->Bool):List α->Nat->Bool
 | [],_=>true
 | y::l,i=>p i y&&allI p l (i+1)
def jG{body:Nat->α->Unit->Option (Lp Unit δ ρ)}{done:Unit->δ}{p:Nat->α->Bool}{v:ρ}:∀{l:List α} {i:Nat},(∀k y,l[k]?=some y->body (i+k) y ()=some (if p (i+k) y then .nx () else .rt v))->C8 body done l i ()=some (if allI p l i then .inl (done ()) else .inr v)
 | [],i,_=>rfl
 | y::l,i,h=>by
   have h0:=h 0 y rfl;rw[Nat.add_zero] at h0;rw[C8,h0,allI];cases p i y with
   | false=>simp[RA]
   | true =>
     have:=jG (body:=body) (done:=done) (p:=p) (v:=v) (l:=l) (i:=i+1) λk z hz=>by
       have:=h (k+1) z (by simpa using hz)
       rwa[show i+(k+1)=i+1+k by omega] at this
     simpa[RA] using this
def Sv{β:Type}{n:Nat}{x:Option β}(h:n<=9223372036854775807):TA n x=x:=by unfold TA;rw[if_pos h]
def Gu{β:Type}{n:Nat}{x:Option β}(h:n<=100000000):ML n x=x:=by unfold ML;rw[if_pos h]
end
end AI
namespace AI
open Go
def mb(p:Prop):Bool:=@decide p (Classical.propDecidable _)
def DF{p:Prop}:mb p=true↔p:=by unfold mb;exact @decide_eq_true_iff p (_)
def MO{p q:Prop}(h:p↔q):mb p=mb q:=by rw[propext h]
def Lt{β:Type}(p:Prop)(x y:β):β:=@ite β p (Classical.propDecidable _) x y
def CL{β:Type}{p:Prop}{x y:β}(h:p):Lt p x y=x:=@if_pos p (_) h _ _ _
def CO{β:Type}{p:Prop}{x y:β}(h:¬p):Lt p x y=y:=@if_neg p (_) h _ _ _
section
variable {β:Type} {x y:β}
def NA(p:Prop):cond (mb p) x y=Lt p x y:=by
 by_cases h:p;rw[CL h,DF.2 h];rfl;rw[CO h]
 have:mb p=false:=by
   cases hm:mb p;rfl;exact absurd (DF.1 hm) h
 rw[this];rfl
end
section
variable {p q r:Prop}
def j9:Lt p (some true) (some false)=some (mb p):=by
 by_cases h:p;rw[CL h,DF.2 h];rw[CO h];congr 1;cases hm:mb p;rfl;exact absurd (DF.1 hm) h
def aku:Lt p (some (mb q)) (some false)=some (mb (p/\q)):=by
 by_cases h:p;rw[CL h];congr 1;rw[Bool.eq_iff_iff,DF,DF];simp[h];rw[CO h];congr 1;rw[Bool.eq_iff_iff,DF];simp[h]
def aqA:Lt p (some false) (some (mb q))=some (mb (¬p/\q)):=by
 by_cases h:p;rw[CL h];congr 1;rw[Bool.eq_iff_iff,DF];simp[h];rw[CO h];congr 1;rw[Bool.eq_iff_iff,DF,DF];simp[h]
def akv:Lt p (some true) (some (mb q))=some (mb (p\/q)):=by
 by_cases h:p;rw[CL h];congr 1;rw[Bool.eq_iff_iff,DF];simp[h];rw[CO h];congr 1;rw[Bool.eq_iff_iff,DF,DF];simp[h]
def ck{δ ρ:Type}(v:ρ)(p:Prop):Lp Unit δ ρ:=Lt p (.nx ()) (.rt v)
variable {δ ρ:Type} {v:ρ}
def amJ:Lt p (some (.nx ())) (some (.rt v))=some (ck (δ:=δ) v p):=by
 unfold ck;by_cases h:p;rw[CL h,CL h];rw[CO h,CO h]
def afC:Lt p (some (.rt v)) (some (.nx ()))=some (ck (δ:=δ) v ¬p):=by
 unfold ck;by_cases h:p;rw[CL h,CO (by simp[h])];rw[CO h,CL h]
def akl:Lt p (some (ck (δ:=δ) v q)) (some (.rt v))=some (ck v (p/\q)):=by
 unfold ck;by_cases h:p;rw[CL h];simp[h];rw[CO h,CO (by simp[h])]
def afD:Lt p (some (.rt v)) (some (ck (δ:=δ) v q))=some (ck v (¬p/\q)):=by
 unfold ck;by_cases h:p;rw[CL h,CO (by simp[h])];rw[CO h];simp[h]
def akk:Lt p (some (ck (δ:=δ) v q)) (some (.nx ()))=some (ck v (p->q)):=by
 unfold ck;by_cases h:p;rw[CL h];simp[h];rw[CO h,CL (by simp[h])]
def aqw:Lt p (some (.nx ())) (some (ck (δ:=δ) v q))=some (ck v (p\/q)):=by
 unfold ck;by_cases h:p;rw[CL h,CL (by simp[h])];rw[CO h];simp[h]
def aqx:Lt p (some (ck (δ:=δ) v q)) (some (ck v r))=some (ck v ((p->q)/\(¬p->r))):=by
 unfold ck;by_cases h:p;rw[CL h];simp[h];rw[CO h];simp[h]
def eW{α β:Type}{l:List α}{body:Nat->α->Unit->Option (Lp Unit Unit ρ)}{P:Nat->α->Prop}{k:Unit->Option β}{kr:ρ->Option β}(hl:l.length<=9223372036854775807)(hb:∀i y,l[i]?=some y->body i y ()=some (ck v (P i y))):(TA l.length (C8 body (λ_=>()) (l.drop 0) 0 ())).bind (MN k kr)=Lt (∀i y,l[i]?=some y->P i y) (k ()) (kr v):=by
 rw[Sv hl,List.drop_zero]
 have h1:∀k y,l[k]?=some y->body (0+k) y ()=some (if mb (P (0+k) y) then .nx () else .rt v):=λk y hy=>by
   rw[Nat.zero_add,hb k y hy];unfold ck;by_cases h:P k y;rw[CL h,if_pos (DF.2 h)];rw[CO h,if_neg (λe=>h (DF.1 e))]
 rw[jG (p:=λi y=>mb (P i y)) (v:=v) h1]
 have h2:∀(l:List α) (i:Nat),allI (λi y=>mb (P i y)) l i=true↔∀k y,l[k]?=some y->P (i+k) y:=by
   intro l
   induction l with
   | nil=>intro i;simp[allI]
   | cons a l ih =>
     intro i;rw[allI,Bool.and_eq_true,DF,ih];constructor;rintro⟨h1,h2⟩ k y hk;cases k with
     | zero=>simp at hk;subst hk;exact h1
     | succ k=>rw[show i+(k+1)=i+1+k by omega];exact h2 k y (by simpa using hk)
     intro h;refine⟨h 0 a rfl,λk y hk=>?_⟩;rw[show i+1+k=i+(k+1) by omega];exact h (k+1) y (by simpa using hk)
 have h3:=h2 l 0;simp only[Nat.zero_add] at h3;by_cases h:∀i y,l[i]?=some y->P i y;rw[CL h,h3.2 h];rfl;rw[CO h]
 have:allI (λi y=>mb (P i y)) l 0=false:=by
   cases ha:allI (λi y=>mb (P i y)) l 0;rfl;exact absurd (h3.1 ha) h
 rw[this];rfl
end
end AI
namespace AI
open Go
def Sp{β:Type}(o:Option β)(Q:β->Prop):Prop:=∃r,o=some r/\Q r
section
variable {α β γ δ ρ κ:Type} {Q:β->Prop}
def Sp.mono{Q':β->Prop}{o:Option β}(h:Sp o Q)(k:∀r,Q r->Q' r):Sp o Q':=h.elim λr h=>⟨r,h.1,k r h.2⟩
def TY(a b:Int):Oe a b=mb (a<=b):=by rw[YP,Bool.eq_iff_iff,DF,decide_eq_true_iff]
def PG(a b:Int):DS a b=mb (a < b):=by rw[Sw,Bool.eq_iff_iff,DF,decide_eq_true_iff]
def LG(a b:Int):CV a b=mb (a=b):=by rw[QT,Bool.eq_iff_iff,DF,beq_iff_eq]
def Sh(a b:ByteArray):B2 a.data.toList b.data.toList=mb (a=b):=by
 rw[TO,Bool.eq_iff_iff,DF,beq_iff_eq];exact⟨λh=>ByteArray.ext (Array.ext' h),λh=>by rw[h]⟩
def pO{p:Prop}:(mb p=true)=p:=propext DF
def WD{p:Prop}:(mb p=false)=¬p:=by rw[<- Bool.not_eq_true,pO]
def jC{p:Prop}:(false=mb p)=¬p:=by rw[@eq_comm _ false,WD]
def smb{p q:Prop}(h:p↔q):some (mb p)=some (mb q):=by rw[MO h]
def fV{p:Prop}(h:¬p):some false=some (mb p):=congrArg some (by rw[jC];exact h)
end
def ZE{n:Int}(h:-9223372036854775808<=n/\n<=9223372036854775807):Nu .i64 n=n:=by
 rw[Vu];exact IntWalk.i64_in n (by omega)
def C5{a b:Int}(h:-9223372036854775808<=a+b/\a+b<=9223372036854775807):BC a b=a+b:=by
 unfold BC;rw[dA,ZE h]
def Kp{a b:Int}(h:-9223372036854775808<=a - b/\a - b<=9223372036854775807):L3 a b=a - b:=by
 unfold L3;rw[fY,ZE h]
def IU{a b:Int}(h:-9223372036854775808<=a*b/\a*b<=9223372036854775807):BU a b=a*b:=by
 unfold BU;rw[ZE h]
end AI
namespace AI
open Go Go.RowKit
def Z2(w w1:World)(g:Nat):Prop:=w.heap.size<=g/\g < w1.heap.size
def Cx.Z9(cx:Cx)(w w1:World):Cx:=⟨cx.base,cx.DD,cx.rows,λg i=>cx.bad g i\/Z2 w w1 g⟩
def Cx.V7(c:Cx)(cx:Cx):Cx:=⟨c.base,c.DD,c.rows,cx.bad⟩
section
variable {G:Bc} {cx:Cx} {w w1:World} {s:AS}
def Vr(k:SI w w1 (λ_=>False)):Mon cx w (cx.Z9 w w1) w1:=by
 refine⟨λ_ _ e=>e,Nat.le_refl _,λr y _ h=>⟨y,h,Lq.refl y⟩,λg i v hv=>⟨Nat.lt_of_lt_of_le hv.1 k.size,λhs=>?_,by rw[k.cell hv.1 id];exact hv.2.2⟩⟩;rcases hs with hs | hs | hs | hs
 exact hv.2.1 (.inl hs);exact hv.2.1 (.inr (.inl hs));exact hv.2.1 (.inr (.inr hs));have:=hs.1;have:=hv.1;omega
def uX(h:St G cx w s)(k:SI w w1 (λ_=>False)):St G (cx.Z9 w w1) w1 s:=by
 have m:=Vr (cx:=cx) k;refine⟨h.len,h.desc,h.nodup,h.low,λid g b h1 h2=>?_,h.J2,λr g n cap sz hr=>?_,h.Kv,λg hg=>Nat.lt_of_lt_of_le (h.O5 g hg) k.size,λg i hb=>?_,h.JZ,λg cs hg=>(h.PB g cs hg).DG m,Nat.le_trans h.Sd k.size⟩;obtain⟨o,ho,hb⟩:=h.box id g b h1 h2;exact⟨o,by rw[k.block g (Array.getElem?_eq_some_iff.1 ho).1 not_false];exact ho,hb.DG m⟩;have hl:=h.Rf hr;obtain⟨NB,h2,h3,h4,vs,T,ho,h5⟩:=h.row r g n cap sz hr;refine⟨λi hb=>?_,h2,h3,h4,vs,T,by rw[k.block g (Array.getElem?_eq_some_iff.1 ho).1 not_false];exact ho,h5⟩;rcases hb with hb | hb
 exact NB i hb;have:=hb.1;omega;rcases hb with hb | hb
 exact Nat.lt_of_lt_of_le (h.OW g i hb) k.size;exact hb.2
variable {c':Cx} {w' w2:World} {s':AS}
def Uk(hx:Ext (cx.Z9 w w1) w1 c' w')(k2:SI w' w2 (Z2 w w1)):Mon c' w' (c'.V7 cx) w2:=by
 refine⟨λ_ _ e=>e,Nat.le_refl _,λr y _ h=>⟨y,h,Lq.refl y⟩,λg i v hv=>⟨Nat.lt_of_lt_of_le hv.1 k2.size,λhs=>?_,?_⟩⟩;rcases hs with hs | hs | hs
 exact hv.2.1 (.inl hs);exact hv.2.1 (.inr (.inl hs));exact hv.2.1 (.inr (.inr (by rw[hx.bad];exact .inl hs)));rw[k2.cell hv.1 (λhk=>hv.2.1 (.inr (.inr (by rw[hx.bad];exact .inr hk))))];exact hv.2.2
def Zv(h:St G cx w s)(k:SI w w1 (λ_=>False))(hx:Ext (cx.Z9 w w1) w1 c' w')(k2:SI w' w2 (Z2 w w1)):Ext cx w (c'.V7 cx) w2:=by
 have m:=Vr (cx:=cx) k;have m2:=Uk hx k2;refine⟨hx.DD,hx.J2,hx.rows,λg i v hv=>m2.gI g i v (hx.gI g i v (m.gI g i v hv)),?_,hx.base,rfl,λg hg=>?_,λr g n cap sz hr=>?_,λq hq hp hr=>?_⟩;have b1:Below cx.base w w1:=k.below h.Sd (λ_ h=>h.elim);have b2:Below cx.base w1 w':=hx.below;have b3:Below cx.base w' w2:=k2.below (Nat.le_trans (Nat.le_trans h.Sd k.size) b2.size) (λq hq=>Nat.le_trans h.Sd hq.1);exact(b1.trans b2).trans b3;rcases hx.kQ g hg with h1 | h1
 exact .inl h1;exact .inr (Nat.le_trans k.size h1);rcases hx.lB r g n cap sz hr with h1 | h1
 exact .inl h1;exact .inr (Nat.le_trans k.size h1);have hq1:q < w1.heap.size:=Nat.lt_of_lt_of_le hq k.size;rw[k2.block q (Nat.lt_of_lt_of_le hq1 hx.below.size) (λhn=>by have:=hn.1;omega),hx.U3 q hq1 hp hr,k.block q hq not_false]
def cG(h:St G cx w s)(hx:Ext (cx.Z9 w w1) w1 c' w')(CW:St G c' w' s')(k2:SI w' w2 (Z2 w w1)):St G (c'.V7 cx) w2 s':=by
 have m2:=Uk hx k2
 have TV:∀g,some g∈c'.DD->¬Z2 w w1 g:=by
   intro g hg hn;rcases hx.kQ g hg with h1 | h1
   have:=h.O5 g h1;have:=hn.1;omega;have:=hn.2;omega
 refine⟨CW.len,CW.desc,CW.nodup,CW.low,λid g b h1 h2=>?_,CW.J2,λr g n cap sz hr=>?_,CW.Kv,λg hg=>Nat.lt_of_lt_of_le (CW.O5 g hg) k2.size,λg i hb=>Nat.lt_of_lt_of_le (CW.OW g i (by rw[hx.bad];exact .inl hb)) k2.size,CW.JZ,λg cs hg=>(CW.PB g cs hg).DG m2,Nat.le_trans CW.Sd k2.size⟩;obtain⟨o,ho,hb⟩:=CW.box id g b h1 h2;exact⟨o,by rw[k2.block g (Array.getElem?_eq_some_iff.1 ho).1 (TV g (List.mem_of_getElem? h1))];exact ho,hb.DG m2⟩;obtain⟨NB,h2,h3,h4,vs,T,ho,h5⟩:=CW.row r g n cap sz hr;have hb:c'.bad=λg i=>cx.bad g i\/Z2 w w1 g:=hx.bad;exact⟨λi VB=>NB i (by rw[hb];exact .inl VB),h2,h3,h4,vs,T,by rw[k2.block g (Array.getElem?_eq_some_iff.1 ho).1 (λhn=>NB 0 (by rw[hb];exact .inr hn))];exact ho,h5⟩
def N0(h:St G cx w s)(hx:Ext (cx.Z9 w w1) w1 c' w'){q:Nat}(hq:Z2 w w1 q):w'.heap[q]?=w1.heap[q]?:=by
 refine hx.U3 q hq.2 (λhm=>?_) (λr n cap sz hr=>?_);have:=h.O5 q hm;have:=hq.1;omega;have:=h.Rf (r:=r) hr;have:=hq.1;omega
end
end AI
