/- Part of a proof: see the last text. -/
import Derived.Test.YtpbkhogolfegfaaGreatDoorPpf
import Derived.Laws.StructEq
set_option linter.unusedVariables false
set_option linter.unusedSimpArgs false
set_option linter.defProp false
noncomputable section
namespace AI
open Go Go.RowKit
inductive Wn:List AV->List AV->Prop where
 | nil:Wn [] []
 | r {a:AV} {l k:List AV} (t:Wn l k):Wn (a::l) (a::k)
 | s {o:Own} {n:Nat} {cs ds l k:List AV} (h:cs=ds) (t:Wn l k):Wn (.sl o n cs::l) (.sl .lost n ds::k)
 | d {o:Own} {n:Nat} {cs ds es l k:List AV} (h:Wn cs ds) (e:ds=es) (t:Wn l k):Wn (.sl o n cs::l) (.sl .lost n es::k)
 | g {cs ds l k:List AV} (h:Wn cs ds) (t:Wn l k):Wn (.agg cs::l) (.agg ds::k)
 | u {cs ds l k:List AV} (h:Wn cs ds) (t:Wn l k):Wn (.CZ cs::l) (.CZ ds::k)
def Wn.refl:∀l:List AV,Wn l l
 | []=>.nil
 | _::l=>.r (Wn.refl l)
def Wn.len{l k:List AV}(h:Wn l k):l.length=k.length:=by
 induction h with
 | nil=>rfl
 | r _ ih=>simp[ih]
 | s _ _ ih=>simp[ih]
 | d _ _ _ _ ih=>simp[ih]
 | g _ _ _ ih=>simp[ih]
 | u _ _ _ ih=>simp[ih]
section
variable {c:Cx} {w:World}
mutual
def Wn.ok:∀{l k:List AV},Wn l k->∀{vs:List Value},CT c w l vs->CT c w k vs
 | _,_,.nil,_,hr=>hr
 | _,_,.r t,_,hr=>by cases hr with | cons h1 t1=>exact .cons h1 (t.ok t1)
 | _,_,.s h t,_,hr=>by
   subst h;cases hr with
   | cons h1 t1 =>
     refine .cons ?_ (t.ok t1);cases h1 with
     | sl0 _=>exact .sl0 trivial
     | M4 hn hc ho=>exact .M4 hn hc trivial
 | _,_,.d h e t,_,hr=>by
   subst e;cases hr with
   | cons h1 t1 =>
     refine .cons ?_ (t.ok t1);cases h1 with
     | sl0 _=>cases h;exact .sl0 trivial
     | M4 hn hc ho=>exact .M4 hn (h.okC hc) trivial
 | _,_,.g h t,_,hr=>by
   cases hr with
   | cons h1 t1 =>
     refine .cons ?_ (t.ok t1);cases h1 with
     | agg h2=>exact .agg (h.ok h2)
 | _,_,.u h t,_,hr=>by
   cases hr with
   | cons h1 t1 =>
     refine .cons ?_ (t.ok t1);cases h1 with
     | CZ h2=>exact .CZ (h.ok h2)
def Wn.okC:∀{l k:List AV},Wn l k->∀{g o:Nat},Bk c w g o l->Bk c w g o k
 | _,_,.nil,_,_,hr=>hr
 | _,_,.r t,_,_,hr=>by cases hr with | cons hv h1 t1=>exact .cons hv h1 (t.okC t1)
 | _,_,.s h t,_,_,hr=>by
   subst h;cases hr with
   | cons hv h1 t1 =>
     refine .cons hv ?_ (t.okC t1);cases h1 with
     | sl0 _=>exact .sl0 trivial
     | M4 hn hc ho=>exact .M4 hn hc trivial
 | _,_,.d h e t,_,_,hr=>by
   subst e;cases hr with
   | cons hv h1 t1 =>
     refine .cons hv ?_ (t.okC t1);cases h1 with
     | sl0 _=>cases h;exact .sl0 trivial
     | M4 hn hc ho=>exact .M4 hn (h.okC hc) trivial
 | _,_,.g h t,_,_,hr=>by
   cases hr with
   | cons hv h1 t1 =>
     refine .cons hv ?_ (t.okC t1);cases h1 with
     | agg h2=>exact .agg (h.ok h2)
 | _,_,.u h t,_,_,hr=>by
   cases hr with
   | cons hv h1 t1 =>
     refine .cons hv ?_ (t.okC t1);cases h1 with
     | CZ h2=>exact .CZ (h.ok h2)
end
end
def Wn.Ws{a b c d:List AV}(h:Wn a b)(k:Wn c d):Wn (a++c) (b++d):=by
 induction a generalizing b with
 | nil=>cases h;exact k
 | cons x a ih =>
   cases h with
   | r t=>exact .r (ih t)
   | s h t=>exact .s h (ih t)
   | d h e t=>exact .d h e (ih t)
   | g h t=>exact .g h (ih t)
   | u h t=>exact .u h (ih t)
def Rp.wnC{c:Cx}{w:World}{o:Own}{q:Nat}{cs ds:List AV}{u:Value}(h:Wn cs ds)(hr:Rp c w (.sl o q cs) u):Rp c w (.sl o q ds) u:=by
 cases hr with
 | sl0 h0=>cases h;exact .sl0 h0
 | M4 hn hc ho=>exact .M4 hn (h.okC hc) (by rw[<- h.len];exact ho)
def Fits.wn{n m:Nat}{a b:AV}(h:Wn [a] [b])(hp:AI.plain b=true):Fits n m a b:=λc w v hr=>by
 have:=h.ok (.cons hr .nil);cases this with
 | cons h1 _=>exact Fits.plain hp c w v h1
section
variable {P:Program} {G:Bc}
def C5(hm:P.follows .mixedOrders=true)(hG:∀g cs,G g=some cs->BS cs=true){f:FuncId}{args:List AV}{v:AV}(h:WC P G (XS P G) H0 f args s0 (λr _=>∃a,r=.ret a/\Fits 0 0 a v))(hp:BS args=true)(hv:plain v=true):Pure P G f args v:=by
 obtain⟨r,s',hj,a,rfl,hf⟩:=h;have hS:=sound (Tv hm) hj;intro s cx w vs hs IC
 have Nr:∀g i x,PE cx w g i x->PE ⟨w.heap.size,[],[],cx.xN⟩ w g i x:=by
   intro g i x hx;refine⟨hx.1,λKQ=>?_,hx.2.2⟩;rcases KQ with KQ | ⟨r,n,cap,sz,hr,_⟩ | KQ
   cases KQ;simp at hr;exact hx.2.1 KQ
 have Gt:St G ⟨w.heap.size,[],[],cx.xN⟩ w s0 :=
   ⟨rfl,trivial,(λi j g h1=>by simp at h1),(λg hg=>by cases hg),(λid g b h1=>by simp at h1),rfl,(λr g n cap sz hr=>by simp at hr),(λr n hr=>by cases hr),(λg hg=>by cases hg),(λg i hb=>hs.eQ hb),(λr r' g n cap sz n' cap' PF hr=>by simp at hr),(λg cs hg=>Bk.plain Nr (hG g cs hg) (hs.Ph g cs hg)),Nat.le_refl _⟩
 refine(hS _ w vs Gt (CT.plain Nr hp IC)).mono ?_;rintro e w' ⟨c',hx,_,u,rfl,hu⟩;have Zw:=hx.below;obtain⟨x2,Xg⟩:=hs.same (w':=w') ⟨Zw.os,Zw.tape,Zw.output,Zw.size,λk hk _=>Zw.block k hk⟩;refine⟨cx,x2,Xg,u,rfl,Rp.plain (c:=c'.upto 0 0) (λg i x hvv=>⟨hvv.1,λKQ=>hvv.2.1 (.inr (.inr ?_)),hvv.2.2⟩) hv (hf _ _ _ hu)⟩;show c'.bad g i;rw[hx.bad];exact KQ
def KM(P:Program)(fn:Func)(m:Nat)(Q:AX->List AV->AS->Prop)(v:AV):Prop:=∀a s2,Fits 0 0 a v->RF P fn m Q a s2
def KM.body{fn:Func}{m:Nat}{v:AV}:KM P fn m (Un P fn m (λr _=>∃a,r=.ret a/\Fits 0 0 a v)) v:=λa _ h=>.body ⟨a,rfl,h⟩
def KM.outer{fn:Func}{m id:Nat}{ks:List KI}{Q:AX->List AV->AS->Prop}{v:AV}(h:KM P fn m Q v):KM P fn m (EP id (Ee P G ks Q)) v:=λa s2 hf=>(h a s2 hf).outer
def SP{δ J:Type}(Q:AX->List AV->AS->Prop)(id:Nat)(F:δ->J->List AV)(S:δ->J->AS)(Ok:J->Prop)(d:δ):Prop:=∀j,Ok j->Q (.exit id) (F d j) (S d j)
def aoA(P:Program)(fn:Func):HR->Option (List Cd×AV)
 | some (.fin .ret,[],cd,fr,s)=>(match JF P s fn fr with
   | some v=>some (cd,v)
   | none=>none)
 | _=>none
def Az{r:HR}{X:Prop}{Q:AX->List AV->AS->Prop}{v w:AV}(fn:Func)(m:Nat){l:List (PC P G)}(R:Vg P G l Q r X)(h:aoA P fn r=some (mH l,v))(k:KM P fn m Q w)(hf:Fits 0 0 v w):X:=by
 unfold aoA at h;split at h;rename_i cd fr' s';split at h;rename_i v' hv;simp only[Option.some.injEq,Prod.mk.injEq] at h;obtain⟨rfl,rfl⟩:=h;exact R _ _ _ _ rfl (Pn l) (k _ _ hf _ _ hv rfl);cases h;cases h
def KM.Gb{fn:Func}{m:Nat}{L:Code}{s0:AS}{Q:AX->List AV->AS->Prop}{v:AV}(h:KM P fn m Q v):KM P fn m (TW P G L s0 Q) v:=h
def MC{δ ρ β:Type}(k:δ->Option β)(kr:ρ->Option β):δ⊕ρ->Option β
 | .inl d=>k d
 | .inr v=>kr v
def pk:PC P G:=⟨.k,[],trivial⟩
def pb{B b:Bool}(h:B=b):PC P G:=⟨.b b,[.eqb B b],⟨h,trivial⟩⟩
def pn{B b:Bool}(h:B=b):PC P G:=⟨.b (!b),[.eqb (!B) (!b)],⟨by show(!B)=(!b);rw[h],trivial⟩⟩
def axD{i:Nat}(h:i < 9223372036854775807):Nh .i64 (zZ ((i:Nat):Int) 1)=((i+1:Nat):Int):=by
 rw[U7,bU];have:=aiS (i:=i+1) (by omega);rw[<- this];rfl
def aLZ(i:Nat)(h:i < 9223372036854775807):PC P G:=⟨.i ((i+1:Nat):Int),[.eqi (Nh .i64 (zZ ((i:Nat):Int) 1)) ((i+1:Nat):Int)],⟨axD h,trivial⟩⟩
def AM{f:FuncId}{args:List AV}{v:AV}(h:Pure P G f args v):PC P G:=⟨.w v,[.pur f args v],⟨h,trivial⟩⟩
def Iq{f:FuncId}{args V0:List AV}{v:AV}(w:Wn args V0)(h:Pure P G f V0 v):PC P G:=⟨.w v,[.pur f args v],⟨λs cx wd vs hs ha=>h s cx wd vs hs (w.ok ha),trivial⟩⟩
def IN{t:TypeId}{a b v:AV}(h:Dz P t a b=some v):PC P G:=⟨.w v,[.idx t a b v],⟨h,trivial⟩⟩
def R8{t:TypeId}{a b v:AV}(h:Lm P t a b=some v):PC P G:=⟨.w v,[.ix t a b v],⟨h,trivial⟩⟩
def Kx{op:BinOp}{t:TypeId}{x y:Operand}{a b v:AV}(h:Ll P op t x y a b=some v):PC P G:=⟨.w v,[.bin op t x y a b v],⟨h,trivial⟩⟩
def Oh{t:TypeId}{a:AV}{l h m:Option AV}{v:AV}(e:KN P t a l h m=some v):PC P G:=⟨.o v,[.sli t a l h m v],⟨e,trivial⟩⟩
def BC(a b:Int):Int:=Nh .i64 (zZ a b)
def LR(a b:Int):Int:=Nh .i64 (eU a b)
def BU(a b:Int):Int:=Nh .i64 (a*b)
def G5{α:Type}(l:List α)(z:Int):Option α:=if 0<=z then l[z.toNat]? else none
structure Q8{α:Type}(f:α->List AV)(C:List α->List AV)(k:Nat):Prop where
 eq:∀l,C l=rows f l
 len:∀x,(f x).length=k
 pl:∀x,BS (f x)=true
def Q8.Ws{α:Type}{f:α->List AV}{C:List α->List AV}{k:Nat}(h:Q8 f C k)(l m:List α):C (l++m)=C l++C m:=by rw[h.eq,h.eq,h.eq,Wi]
def Q8.cons{α:Type}{f:α->List AV}{C:List α->List AV}{k:Nat}(h:Q8 f C k)(x:α)(m:List α):C (x::m)=f x++C m:=by rw[h.eq,h.eq,I1]
def Q8.A1{α:Type}{f:α->List AV}{C:List α->List AV}{k:Nat}(h:Q8 f C k)(l:List α):BS (C l)=true:=by rw[h.eq];exact pM λx _=>h.pl x
def Q8.IA{α:Type}{f:α->List AV}{C:List α->List AV}{k:Nat}(h:Q8 f C k)(l:List α):plain (.sl .lost l.length (C l))=true:=by simp only[plain,h.A1];rfl
def Q8.Cu{α:Type}{f:α->List AV}{C:List α->List AV}{k:Nat}(h:Q8 f C k)(x:α):plain (.agg (f x))=true:=h.pl x
def Q8.ix{α:Type}{f:α->List AV}{C:List α->List AV}{k:Nat}(h:Q8 f C k){t elem:TypeId}(hu:P.underlying t=some (.slice elem))(hs:(P.info? elem).map (·.size)=some k)(own:Own){l:List α}{i:Nat}{x:α}(hx:l[i]?=some x):Dz P t (.sl own l.length (C l)) (.sc (.int .i64 ((i:Nat):Int)))=some (.el (f x++C (l.drop (i+1)))):=by
 cases hi:P.info? elem with
 | none=>rw[hi] at hs;cases hs
 | some e =>
   rw[hi] at hs;rw[h.eq,h.eq];exact oH hu hi (by simpa using hs) h.len hx
def Q8.ixz{α:Type}{f:α->List AV}{C:List α->List AV}{k:Nat}(h:Q8 f C k){t elem:TypeId}(hu:P.underlying t=some (.slice elem))(hs:(P.info? elem).map (·.size)=some k)(own:Own){l:List α}{z:Int}{x:α}(hx:G5 l z=some x):Dz P t (.sl own l.length (C l)) (.sc (.int .i64 z))=some (.el (f x++C (l.drop (z.toNat+1)))):=by
 unfold G5 at hx;split at hx;rename_i hz;have:=h.ix hu hs own hx;rwa[Int.toNat_of_nonneg hz] at this;cases hx
def Q8.wn{α:Type}{f:α->List AV}{C:List α->List AV}{k:Nat}(h:Q8 f C k)(m:List α){a:List AV}(w:Wn a (rows f m)):Wn a (C m):=by rw[h.eq];exact w
def Wj{α:Type}{f:α->List AV}{k:Nat}(hf:∀x,(f x).length=k)(l:List α)(i:Nat):(rows f l).drop (i*k)=rows f (l.drop i):=by
 induction l generalizing i with
 | nil=>simp[rows]
 | cons x l ih =>
   cases i with
   | zero=>simp
   | succ i =>
     rw[I1,List.drop_append,hf x,List.drop_eq_nil_of_le (by rw[hf x,Nat.add_mul];omega),List.nil_append,List.drop_succ_cons,<- ih i];congr 1;rw[Nat.add_mul];omega
def Wk{α:Type}{f:α->List AV}{k:Nat}(hf:∀x,(f x).length=k)(l:List α)(i:Nat):(rows f l).take (i*k)=rows f (l.take i):=by
 induction l generalizing i with
 | nil=>simp[rows]
 | cons x l ih =>
   cases i with
   | zero=>simp[rows]
   | succ i =>
     rw[I1,List.take_append,hf x,List.take_of_length_le (by rw[hf x,Nat.add_mul];omega),List.take_succ_cons,I1,<- ih i];congr 2;rw[Nat.add_mul];omega
def Q8.sub{α:Type}{f:α->List AV}{C:List α->List AV}{k:Nat}(h:Q8 f C k){t elem:TypeId}(hu:P.underlying t=some (.slice elem))(hs:(P.info? elem).map (·.size)=some k)(l q:Nat){s:List α}(h1:l<=q)(h2:q<=s.length)(lo hi:Option AV)(e1:MV 0 lo=some l)(e2:MV s.length hi=some q) :
   KN P t (.sl .lost s.length (C s)) lo hi none=some (.sl .lost ((s.drop l).take (q - l)).length (C ((s.drop l).take (q - l)))):=by
 cases Nq:P.info? elem with
 | none=>rw[Nq] at hs;cases hs
 | some e =>
   rw[Nq] at hs;have hk:e.size=k:=by simpa using hs
   unfold KN;simp only[hu,Nq,e1,e2,hk];rw[if_pos ⟨h1,h2,by rw[h.eq,Sb h.len]⟩]
   have e3:(if l=0/\q=s.length then Own.lost else if q=s.length/\Own.lost=.full then .full else .lost)=.lost:=by
     split;rfl;split;rename_i hq;exact absurd hq.2 (by decide);rfl
   rw[e3,h.eq,h.eq,Wj h.len,Wk h.len];congr 2;simp;omega
def evt{β:Type}(f:Nat->Option β):Option β:=open Classical in if h:∃y,∃n0:Nat,∀n,n0<=n->f n=some y then some (Classical.choose h) else none
def vL{β:Type}{f:Nat->Option β}{y:β}(h:evt f=some y):∃n,f n=some y:=by
 unfold evt at h;split at h;rename_i hx;obtain⟨n0,hn⟩:=Classical.choose_spec hx;rw[Option.some.inj h] at hn;exact⟨n0,hn n0 (Nat.le_refl _)⟩;cases h
def X1{β:Type}{f:Nat->Option β}{y:β}(n0:Nat)(h:∀n,n0<=n->f n=some y):evt f=some y:=by
 unfold evt;have hx:∃y,∃n0:Nat,∀n,n0<=n->f n=some y:=⟨y,n0,h⟩;rw[dif_pos hx];obtain⟨n1,hn⟩:=Classical.choose_spec hx;have h1:=h (max n0 n1) (Nat.le_max_left _ _);have h2:=hn (max n0 n1) (Nat.le_max_right _ _);rw[h1] at h2;rw[Option.some.inj h2]
def MA{β:Type}(n:Nat)(x:Option β):Option β:=if n<=100000000 then x else none
def aeL{β:Type}{n:Nat}{x:Option β}{r:β}(h:MA n x=some r):n<=100000000/\x=some r:=by
 unfold MA at h;split at h;rename_i h1;exact⟨h1,h⟩;cases h
def Q8.Zv{α:Type}{f:α->List AV}{C:List α->List AV}{k:Nat}(h:Q8 f C k){t tx e e2 by':Nat}(hu:P.underlying t=some (.slice e))(hux:P.underlying tx=some (.slice e2))(hi:(P.info? e).map (λi=>(i.size,i.bytes,i.zero.map (·.cells.size)))=some (k,by',some k))(hk:0 < k)(hb:by'<=10000)
   (own:Own) (l m:List α) {o:Own} {n:Nat} {ns:List AV} (hn:Wn ns (C m)) (nY:n=m.length) (ho:ns.all one=true) (hm:m.length≠0) (hlen:l.length+m.length<=100000000):Cd.ok P G (.Zv t tx own l.length (C l) (.sl o n ns) k (l++m).length (C (l++m))):=by
 subst nY;cases hq:P.info? e with
 | none=>rw[hq] at hi;cases hi
 | some i =>
   rw[hq] at hi;simp only[Option.map_some,Option.some.injEq,Prod.mk.injEq] at hi;obtain⟨h1,h2,h3⟩:=hi;cases hz:i.zero with
   | none=>rw[hz] at h3;cases h3
   | some z =>
     rw[hz] at h3;simp only[Option.map_some,Option.some.injEq] at h3;intro s QB;have hnl:ns.length=m.length*k:=by rw[hn.len,h.eq,Sb h.len]
     have vW:(C l).length=l.length*k:=by rw[h.eq,Sb h.len]
     refine⟨C l++ns,?_,λc w u o' hr=>?_⟩
     have hs:gG P s i.size tx (.sl o m.length ns)=some (m.length,ns):=by
       unfold gG;rw[hux,h1];simp only[hnl,if_true]
     unfold Mc;simp only[hu,hq,hz];rw[if_pos ⟨by rw[h3,h1],by omega⟩,hs];simp only
     have hbb:(l.length+m.length)*i.bytes<=140737488355328:=by
       rw[h2];exact Nat.le_trans (Nat.mul_le_mul hlen hb) (by decide)
     rw[if_pos ⟨by rw[vW,h1],ho,hbb,by omega⟩,if_neg hm,h1,if_pos QB,List.length_append];rw[h.Ws];exact Rp.wnC (Wn.Ws (Wn.refl (C l)) hn) hr
def QP{t tx:TypeId}{own:Own}{n:Nat}{cs:List AV}{b:AV}{sz k:Nat}{qV:List AV}(h:Cd.ok P G (.Zv t tx own n cs b sz k qV)):PC P G :=
 match own with
 | .row r z=>⟨.g sz k qV,[.Zv t tx (.row r z) n cs b sz k qV,.eqn n n],⟨h,rfl,trivial⟩⟩
 | .full=>⟨.g sz k qV,[.Zv t tx .full n cs b sz k qV],⟨h,trivial⟩⟩
 | _=>⟨.g sz k qV,[],trivial⟩
def A1{a:AV}{l:List AV}(h:plain a=true)(t:BS l=true):BS (a::l)=true:=by simp only[BS,h,t];rfl
def atB{a b:List AV}(ha:BS a=true)(hb:BS b=true):BS (a++b)=true:=by
 induction a with
 | nil=>exact hb
 | cons x a ih =>
   simp only[BS,Bool.and_eq_true,List.cons_append] at ha ⊢;exact⟨ha.1,ih ha.2⟩
def Ks{n m:Nat}{a:AV}{l:List AV}(h:under n m a=true)(t:FC n m l=true):FC n m (a::l)=true:=by simp only[FC,h,t];rfl
end
end AI
namespace AI
open Go Go.RowKit
def J8{P:Program}{α β:Type}(m:Sem α)(f:α->Sem β):pv P (m >>= f)=(pv P m).bind λa=>pv P (f a):=by
 show pv P (m.bind f)=_
 induction m with
 | pure a=>rfl
 | program k ih=>exact ih P
 | mark _ k ih=>exact ih
 | _=>rfl
def Nz{P:Program}{α:Type}(a:α):pv P (pure a:Sem α)=some a:=rfl
def TM{P:Program}:pv P program=some P:=rfl
def Ky{P:Program}{t:TypeId}{d:TypeDesc}(h:P.underlying t=some d):pv P (underlying t)=some d:=by
 unfold underlying;rw[J8,TM];simp only[Option.bind_some,h];rfl
def ayN{P:Program}{α:Type}(c:Prop)[Decidable c](a b:Sem α):pv P (if c then a else b)=if c then pv P a else pv P b:=by split<;>rfl
def UN{P:Program}(d:Nat)(t:TypeId)(xs ys:Array Value)(ht:P.underlying t=some (.struct (P.fieldsOf t)))(hp:P.stoodInHeld t=false) :
   pv P (Op.equalIn (d+1) t (.agg xs) (.agg ys))=pv P (Op.eqFields d xs ys (P.fieldsOf t).toList):=by
 simp only[Op.equalIn,J8,Ky ht,Option.bind_some,TM,hp,Bool.false_eq_true,if_false];rw[<- Array.forIn_toList];generalize (P.fieldsOf t).toList=fs;clear ht
 induction fs with
 | nil=>simp[Op.eqFields,Nz]
 | cons f fs ih =>
   simp only[List.forIn_cons,Op.eqFields,J8,ayN];split
   · generalize pv P (part f.type xs f.offset)=r1
     cases r1 with
     | none=>simp
     | some a =>
       simp only[Option.bind_some];generalize pv P (part f.type ys f.offset)=r2;cases r2 with
       | none=>simp
       | some b =>
         simp only[Option.bind_some];generalize pv P (Op.equalIn d f.type a b)=r3;cases r3 with
         | none=>simp
         | some r =>
           cases r;simp[Nz];simp only[Option.bind_some,Bool.not_true,Bool.false_eq_true,if_false,Nz];exact ih
   simp only[Nz,Option.bind_some];exact ih
def anQ{P:Program}{t:TypeId}{k:IntKind}(h:P.underlying t=some (.int k))(cs:Array Value)(off:Nat){v:Value}(hv:cs[off]?=some v):pv P (part t cs off)=some v:=by
 unfold part isAgg;simp[J8,Ky h,Nz,hv]
def YI{P:Program}(d:Nat){t:TypeId}{k k':IntKind}(a b:Int)(h:P.underlying t=some (.int k')):pv P (Op.equalIn (d+1) t (.int k a) (.int k b))=some (a == b):=by
 simp[Op.equalIn,J8,Ky h,Nz]
def jT{P:Program}(op:BinOp)(t:TypeId)(x y:Operand)(xs ys:Array Value)(hm:P.eqGuardType P.depth t=false):pv P (eqGuard op t x y (.agg xs) (.agg ys))=some ():=by
 cases op<;>simp[eqGuard,J8,TM,hm,Nz]
def RY(P:Program)(t:TypeId):Nat:=match P.underlying t with
 | some (.int _)=>1
 | some .string=>2
 | _=>0
def fEq:Value->Value->Option Bool
 | .int k a,.int k' b=>if k=k' then some (a == b) else none
 | .string a,.string b=>some (a == b)
 | _,_=>none
def Zr:List Value->List Value->Option Bool
 | [],[]=>some true
 | a::as,b::bs=>(fEq a b).bind λr=>(match r with | true=>Zr as bs | false=>some false)
 | _,_=>none
def jU{P:Program}{t:TypeId}(h:RY P t≠0)(cs:Array Value)(off:Nat){v:Value}(hv:cs[off]?=some v):pv P (part t cs off)=some v:=by
 unfold RY at h;split at h;rename_i h1;exact anQ h1 cs off hv;rename_i h1;unfold part isAgg;simp[J8,Ky h1,Nz,hv];exact absurd rfl h
def ayM{P:Program}(d:Nat){t:TypeId}{a b:Value}{r:Bool}(hk:(∃k n m,a=.int k n/\b=.int k m/\RY P t=1)\/(∃x y,a=.string x/\b=.string y/\RY P t=2))(h:fEq a b=some r):pv P (Op.equalIn (d+1) t a b)=some r:=by
 rcases hk with ⟨k,n,m,rfl,rfl,hk⟩ | ⟨x,y,rfl,rfl,hk⟩
 unfold RY at hk;split at hk;rename_i h1;simp only[fEq,if_true] at h;rw[YI d n m h1];exact h;cases hk;cases hk;unfold RY at hk;split at hk;cases hk;rename_i h1;simp only[fEq] at h;rw[<- h];simp[Op.equalIn,J8,Ky h1,Nz];cases hk
def hZ:List Nat->List Value->Prop
 | [],[]=>True
 | k::ks,v::vs=>((∃n,v=.int .i64 n/\k=1)\/(∃x,v=.string x/\k=2))/\hZ ks vs
 | _,_=>False
def wW{P:Program}(d:Nat):∀(fs:List Field) (off:Nat) (ks:List Nat) (xs ys:List Value) (us vs:List Value) (r:Bool),fs.map (λf=>RY P f.type)=ks->(∀(i:Nat) f,fs[i]?=some f->f.name≠"_"/\f.offset=off+i)->xs.drop off=us->ys.drop off=vs->hZ ks us->hZ ks vs->Zr us vs=some r->pv P (Op.eqFields (d+1) xs.toArray ys.toArray fs)=some r:=by
 intro fs
 induction fs with
 | nil =>
   intro off ks xs ys us vs r fR _ hx hy h1 h2 h;cases ks with
   | cons=>cases fR
   | nil =>
     cases us<;>cases vs<;>simp only[hZ,Zr] at h1 h2 h
     rw[<- h];rfl
 | cons f fs ih =>
   intro off ks xs ys us vs r fR hf hx hy h1 h2 h;cases ks with
   | nil=>cases fR
   | cons k ks =>
     cases us with
     | nil=>cases h1
     | cons u us =>
       cases vs with
       | nil=>cases h2
       | cons v vs =>
         simp only[List.map_cons,List.cons.injEq] at fR;obtain⟨hk,fR⟩:=fR;obtain⟨hn,ho⟩:=hf 0 f rfl;rw[Nat.add_zero] at ho;have hxu:xs.toArray[off]?=some u:=by rw[List.getElem?_toArray,<- List.head?_drop,hx];rfl
         have hyv:ys.toArray[off]?=some v:=by rw[List.getElem?_toArray,<- List.head?_drop,hy];rfl
         have hk0:RY P f.type≠0:=by
           rw[hk];rcases h1.1 with ⟨_,_,e⟩ | ⟨_,_,e⟩<;>omega
         have hkk:(∃k n m,u=.int k n/\v=.int k m/\RY P f.type=1)\/(∃x y,u=.string x/\v=.string y/\RY P f.type=2):=by
           rw[hk];rcases h1.1 with ⟨n,e1,e2⟩ | ⟨n,e1,e2⟩<;>rcases h2.1 with ⟨m,e3,e4⟩ | ⟨m,e3,e4⟩
           exact .inl ⟨_,n,m,e1,e3,e2⟩;omega;omega;exact .inr ⟨n,m,e1,e3,e2⟩
         simp only[Zr] at h;cases hq:fEq u v with
         | none=>rw[hq] at h;cases h
         | some q =>
           rw[hq] at h;simp only[Op.eqFields,hn,ne_eq,not_false_eq_true,if_true,ho];simp only[J8,jU hk0 xs.toArray off hxu,jU hk0 ys.toArray off hyv,Option.bind_some,ayM d hkk hq];cases q with
           | false =>
             have:r=false:=by simpa using h.symm
             subst this;rfl
           | true =>
             have ih:=ih (off+1) ks xs ys us vs r fR (λi f' hi=>by
               have:=hf (i+1) f' (by simpa using hi)
               exact⟨this.1,by rw[this.2];omega⟩) (by rw[<- List.tail_drop,hx];rfl) (by rw[<- List.tail_drop,hy];rfl) h1.2 h2.2 (by simpa using h)
             simpa using ih
structure Flat(P:Program)(t:TypeId)(ks:List Nat):Prop where
 st:P.underlying t=some (.struct (P.fieldsOf t))
 hp:P.stoodInHeld t=false
 hm:P.eqGuardType P.depth t=false
 kd:(P.fieldsOf t).toList.map (λf=>RY P f.type)=ks
 nm:(P.fieldsOf t).toList.map (λf=>decide (f.name≠"_"))=List.replicate ks.length true
 of:(P.fieldsOf t).toList.map (λf=>f.offset)=List.range ks.length
def xZ(vs:List Value):O4 (vs.map .sc)=some vs:=by
 induction vs with
 | nil=>rfl
 | cons v vs ih=>simp[O4,Y1,ih]
def Flat.pv{P:Program}{t:TypeId}{ks:List Nat}(h:Flat P t ks){us vs:List Value}{r:Bool}(h1:hZ ks us)(h2:hZ ks vs)(h3:Zr us vs=some r):AI.pv P (Op.equalIn (9998+1+1) t (.agg us.toArray) (.agg vs.toArray))=some r:=by
 rw[UN _ _ _ _ h.st h.hp];refine wW 9998 _ 0 ks us vs us vs r h.kd (λi f hf=>?_) rfl rfl h1 h2 h3
 have hl:i < ks.length:=by
   have:=(List.getElem?_eq_some_iff.1 hf).1;have h5:=congrArg List.length h.kd;simp at h5 this;omega
 have a1:=congrArg (λl=>l[i]?) h.nm;have a2:=congrArg (λl=>l[i]?) h.of;simp only[List.getElem?_map,hf,Option.map_some,List.getElem?_replicate,hl,if_true,Option.some.injEq,decide_eq_true_eq] at a1;simp only[List.getElem?_map,hf,Option.map_some,List.getElem?_range hl,Option.some.injEq] at a2;exact⟨a1,by omega⟩
def Flat.bin{P:Program}{t:TypeId}{ks:List Nat}(h:Flat P t ks){us vs:List Value}{r:Bool}(h1:hZ ks us)(h2:hZ ks vs)(h3:Zr us vs=some r)(x y:Operand) :
   Ll P .eql t x y (.agg (us.map .sc)) (.agg (vs.map .sc))=some (.sc (.bool r))/\Ll P .neq t x y (.agg (us.map .sc)) (.agg (vs.map .sc))=some (.sc (.bool (!r))):=by
 have ht:∀l:List Value,U0 (.agg (l.map .sc))=some (.agg l.toArray):=λl=>by simp only[U0,xZ,Option.map_some]
 have hv:=h.pv h1 h2 h3
 have e1:AI.pv P (do eqGuard .eql t x y (.agg us.toArray) (.agg vs.toArray);binOp .eql t (.agg us.toArray) (.agg vs.toArray))=some (.bool r):=by
   rw[J8,jT _ _ _ _ _ _ h.hm];simp only[Option.bind_some,binOp,J8,Op.equal,Op.maxDepth];rw[show(10000:Nat)=9998+1+1 from rfl,hv];rfl
 have e2:AI.pv P (do eqGuard .neq t x y (.agg us.toArray) (.agg vs.toArray);binOp .neq t (.agg us.toArray) (.agg vs.toArray))=some (.bool (!r)):=by
   rw[J8,jT _ _ _ _ _ _ h.hm];simp only[Option.bind_some,binOp,J8,Op.equal,Op.maxDepth];rw[show(10000:Nat)=9998+1+1 from rfl,hv];rfl
 refine⟨?_,?_⟩;show S3 _ _ _ _ _ (.agg _) (.agg _)=_;unfold S3;simp only[ht,e1,Option.bind_some];rfl;show S3 _ _ _ _ _ (.agg _) (.agg _)=_;unfold S3;simp only[ht,e2,Option.bind_some];rfl
def azY(x y:Int):Int:=if y > x then y else x
def azZ(x y:Int):Int:=if y < x then y else x
end AI
namespace AI
open Go Go.RowKit
mutual
inductive Rn(k j:Nat)(ρ σ:Nat->Nat):AV->AV->Prop where
 | pl {a:AV} (h:plain a=true):Rn k j ρ σ a a
 | ptr {i off:Nat} (h:i < k):Rn k j ρ σ (.ptr i off) (.ptr (ρ i) off)
 | mp {i:Nat} (h:i < k):Rn k j ρ σ (.mp i) (.mp (ρ i))
 | msl {i off n:Nat} (h:i < k):Rn k j ρ σ (.msl i off n) (.msl (ρ i) off n)
 | row {r sz n:Nat} {cs:List AV} (h:r < j) (hp:BS cs=true):Rn k j ρ σ (.sl (.row r sz) n cs) (.sl (.row (σ r) sz) n cs)
 | agg {cs ds:List AV} (h:Ui k j ρ σ cs ds):Rn k j ρ σ (.agg cs) (.agg ds)
 | CZ {cs ds:List AV} (h:Ui k j ρ σ cs ds):Rn k j ρ σ (.CZ cs) (.CZ ds)
 | fn {f:Fn} {a a' b b':List AV} (h1:Ui k j ρ σ a a') (h2:Ui k j ρ σ b b'):Rn k j ρ σ (.fn f a b) (.fn f a' b')
inductive Ui(k j:Nat)(ρ σ:Nat->Nat):List AV->List AV->Prop where
 | nil:Ui k j ρ σ [] []
 | cons {a b:AV} {l m:List AV} (h:Rn k j ρ σ a b) (t:Ui k j ρ σ l m):Ui k j ρ σ (a::l) (b::m)
end
inductive uK(k j:Nat)(ρ σ:Nat->Nat):Bo->Bo->Prop where
 | cells {cs ds:List AV} (h:Ui k j ρ σ cs ds):uK k j ρ σ (.cells cs) (.cells ds)
 | map {es:List (Value×AV×Nat)} {cl:Nat} (h:∀e∈es,plain e.2.1=true):uK k j ρ σ (.map es cl) (.map es cl)
def Ui.pl{k j:Nat}{ρ σ:Nat->Nat}:∀{l:List AV},BS l=true->Ui k j ρ σ l l
 | [],_=>.nil
 | a::l,h=>by
   simp only[BS,Bool.and_eq_true] at h;exact .cons (.pl h.1) (Ui.pl h.2)
section
variable {c c':Cx} {w w':World} {k j:Nat} {ρ σ:Nat->Nat}
structure Dn(k j:Nat)(ρ σ:Nat->Nat)(c:Cx)(w:World)(c0:Cx)(w0:World):Prop where
 fC:∀g i v,PE c w g i v->PE c0 w0 g i v
 Dy:∀i g,i < k->c.Dy[ρ i]?=some (some g)->c0.Dy[i]?=some (some g)
 rows:∀r,r < j->∃x,c.rows[σ r]?=some x/\c0.rows[r]?=some x
structure Up(k j:Nat)(ρ σ:Nat->Nat)(c0:Cx)(w0:World)(c:Cx)(w:World):Prop where
 fC:∀g i v,PE c0 w0 g i v->PE c w g i v
 Dy:∀i g,i < k->c0.Dy[i]?=some (some g)->c.Dy[ρ i]?=some (some g)
 rows:∀r,r < j->∃x,c.rows[σ r]?=some x/\c0.rows[r]?=some x
mutual
def Rn.down(d:Dn k j ρ σ c w c' w'):∀{a b:AV} {v:Value},Rn k j ρ σ a b->Rp c w b v->Rp c' w' a v:=by
 intro a b v hn h;cases hn with
 | pl hp=>exact h.plain d.fC hp
 | ptr hi=>cases h with | ptr h1=>exact .ptr (d.Dy _ _ hi h1)
 | mp hi=>cases h with | mp h1=>exact .mp (d.Dy _ _ hi h1)
 | msl hi=>cases h with | msl hn h1=>exact .msl hn (d.Dy _ _ hi h1)
 | @row r sz n cs hr hp =>
   obtain⟨x,hx,hx0⟩:=d.rows r hr;have hl:=(List.getElem?_eq_some_iff.1 hx0).1;cases h with
   | sl0 h0=>exact .sl0 ⟨h0.1,hl⟩
   | M4 hn hc ho =>
     refine .M4 hn (hc.plain d.fC hp) ⟨ho.1,ho.2.1,hl,λe=>ho.2.2.2.1 ?_,λg' n' cap' PF e=>ho.2.2.2.2 g' n' cap' PF ?_⟩;rw[hx,<- hx0];exact e;rw[hx,<- hx0];exact e
 | agg h1=>cases h with | agg h2=>exact .agg (Ui.down d h1 h2)
 | CZ h1=>cases h with | CZ h2=>exact .CZ (Ui.down d h1 h2)
 | fn h1 h2=>cases h with | fn h3 h4=>exact .fn (Ui.down d h1 h3) (Ui.down d h2 h4)
def Ui.down(d:Dn k j ρ σ c w c' w'):∀{a b:List AV} {v:List Value},Ui k j ρ σ a b->CT c w b v->CT c' w' a v:=by
 intro a b v hn h;cases hn with
 | nil=>cases h;exact .nil
 | cons h1 t=>cases h with | cons h2 t2=>exact .cons (Rn.down d h1 h2) (Ui.down d t t2)
end
mutual
def Rn.up(d:Up k j ρ σ c w c' w'):∀{a b:AV} {v:Value},Rn k j ρ σ a b->Rp c w a v->Rp c' w' b v:=by
 intro a b v hn h;cases hn with
 | pl hp=>exact h.plain d.fC hp
 | ptr hi=>cases h with | ptr h1=>exact .ptr (d.Dy _ _ hi h1)
 | mp hi=>cases h with | mp h1=>exact .mp (d.Dy _ _ hi h1)
 | msl hi=>cases h with | msl hn h1=>exact .msl hn (d.Dy _ _ hi h1)
 | @row r sz n cs hr hp =>
   obtain⟨x,hx,hx0⟩:=d.rows r hr;have hl:=(List.getElem?_eq_some_iff.1 hx).1;cases h with
   | sl0 h0=>exact .sl0 ⟨h0.1,hl⟩
   | M4 hn hc ho =>
     refine .M4 hn (hc.plain d.fC hp) ⟨ho.1,ho.2.1,hl,λe=>ho.2.2.2.1 ?_,λg' n' cap' PF e=>ho.2.2.2.2 g' n' cap' PF ?_⟩;rw[hx0,<- hx];exact e;rw[hx0,<- hx];exact e
 | agg h1=>cases h with | agg h2=>exact .agg (Ui.up d h1 h2)
 | CZ h1=>cases h with | CZ h2=>exact .CZ (Ui.up d h1 h2)
 | fn h1 h2=>cases h with | fn h3 h4=>exact .fn (Ui.up d h1 h3) (Ui.up d h2 h4)
def Ui.up(d:Up k j ρ σ c w c' w'):∀{a b:List AV} {v:List Value},Ui k j ρ σ a b->CT c w a v->CT c' w' b v:=by
 intro a b v hn h;cases hn with
 | nil=>cases h;exact .nil
 | cons h1 t=>cases h with | cons h2 t2=>exact .cons (Rn.up d h1 h2) (Ui.up d t t2)
end
def KL.plain(hv:∀g i v,PE c w g i v->PE c' w' g i v):∀{es:List (Value×AV×Nat)} {fs:List MapEntry},(∀e∈es,AI.plain e.2.1=true)->KL c w es fs->KL c' w' es fs:=by
 intro es
 induction es with
 | nil=>intro fs _ h;cases h;exact .nil
 | cons e es ih =>
   intro fs hp h;cases h with | cons h1 t=>exact .cons (h1.plain hv (hp _ List.mem_cons_self)) (ih (λx hx=>hp x (List.mem_cons_of_mem _ hx)) t)
def uK.down(d:Dn k j ρ σ c w c' w'){a b:Bo}{o:Obj}(hn:uK k j ρ σ a b)(h:FD c w b o):FD c' w' a o:=by
 cases hn with
 | cells h1=>cases h with | I3 ext h2=>exact .I3 ext (Ui.down d h1 h2)
 | map hp=>cases h with | map h2=>exact .map (h2.plain d.fC hp)
def uK.up(d:Up k j ρ σ c w c' w'){a b:Bo}{o:Obj}(hn:uK k j ρ σ a b)(h:FD c w a o):FD c' w' b o:=by
 cases hn with
 | cells h1=>cases h with | I3 ext h2=>exact .I3 ext (Ui.up d h1 h2)
 | map hp=>cases h with | map h2=>exact .map (h2.plain d.fC hp)
end
structure Upd(k j:Nat)(ρ σ:Nat->Nat)(h2:List (Nat×Bo))(F2:List (Nat×Nat))(s s2:AS):Prop where
 nx:s2.nx=s.nx
 nr:s2.nr=s.nr
 desc:∀n,Kt s.h n->Kt s2.h n
 get:∀id b,s2.get id=some b->(∃i b0,i < k/\id=ρ i/\look i h2=some b0/\uK k j ρ σ b0 b)\/((∀i,i < k->id≠ρ i)/\s.get id=some b)
 tok:∀q n,Fl q s2.F=some n->(∃r,r < j/\q=σ r/\Fl r F2=some n)\/((∀r,r < j->q≠σ r)/\Fl q s.F=some n)
def RnR(k j:Nat)(ρ σ:Nat->Nat):CR->CR->Prop
 | .ret v,.ret v'=>Rn k j ρ σ v v'
 | .pan v,.pan v'=>Rn k j ρ σ v v'
 | _,_=>False
def avK{P:Program}{G:Bc}(hG:∀g cs,G g=some cs->BS cs=true){f:FuncId}{args XG:List AV}{r r':CR}{hm h2:List (Nat×Bo)}{k j:Nat}{Fm F2:List (Nat×Nat)}(h:Sound P G (.call f args ⟨hm,k,Fm,j⟩ r ⟨h2,k,F2,j⟩))(hd:Kt hm k)
   (ρ σ:Nat->Nat) (aJW:∀i i',i < k->i' < k->ρ i=ρ i'->i=i') (asP:∀i i',i < j->i' < j->σ i=σ i'->i=i') (IC:Ui k j ρ σ args XG)
   {s s2:AS} (cX:∀i b,i < k->look i hm=some b->∃b',s.get (ρ i)=some b'/\uK k j ρ σ b b')
   (Ty:∀cx w vs,St G cx w s->CT cx w XG vs->∀i,i < k->∃g,cx.Dy[ρ i]?=some (some g))
   (aCO:∀q n,q < j->Fl q Fm=some n->Fl (σ q) s.F=some n) (aCM:∀q,q < j->∃n,Fl q Fm=some n) (hFm:∀q n,Fl q Fm=some n->q < j)
   (hr:RnR k j ρ σ r r')
   (hu:Upd k j ρ σ h2 F2 s s2):Sound P G (.call f XG s r' s2):=by
 intro cx w vs hs ha;have hph:=Ty cx w vs hs ha
 have hg:∀i:Nat,∃g,i < k->cx.Dy[ρ i]?=some (some g):=λi=>by
   by_cases hi:i < k;obtain⟨g,hg⟩:=hph i hi;exact⟨g,λ_=>hg⟩;exact⟨0,λh=>absurd h hi⟩
 obtain⟨gs,hgs⟩:=Classical.axiomOfChoice hg
 have hrw:∀q:Nat,∃x,q < j->cx.rows[σ q]?=some x:=λq=>by
   by_cases hq:q < j;obtain⟨n,hn⟩:=aCM q hq;rcases hs.Kn _ _ (aCO q n hq hn) with ⟨h1,_⟩ | ⟨g,cap,sz,h1⟩
   exact⟨_,λ_=>h1⟩;exact⟨_,λ_=>h1⟩;exact⟨.gone,λh=>absurd h hq⟩
 obtain⟨rw,hrw⟩:=Classical.axiomOfChoice hrw;have nX:∀i,i < k->some (gs i)∈cx.Dy:=λi hi=>List.mem_of_getElem? (hgs i hi);have hgi:∀i i',i < k->i' < k->gs i=gs i'->i=i':=λi i' hi Nq e=>aJW i i' hi Nq (hs.nodup _ _ _ (hgs i hi) (by rw[e];exact hgs i' Nq));let K:Nat->Prop:=λq=>(∃i,i < k/\q=gs i)\/∃r n cap sz,r < j/\cx.rows[σ r]?=some (.RC q n cap sz);let c0:Cx:=⟨0,(List.range k).map λi=>some (gs i),(List.range j).map rw,λq i=>¬K q/\cx.xN q i⟩
 have V9:∀(i g:Nat),c0.Dy[i]?=some (some g)↔i < k/\g=gs i:=by
   intro i g;show((List.range k).map λi=>some (gs i))[i]?=some (some g)↔_;rw[List.getElem?_map];by_cases hi:i < k;rw[List.getElem?_range hi];simp[hi,eq_comm];rw[List.getElem?_eq_none (by simp;omega)];simp[hi]
 have rP:∀g,some g∈c0.Dy->∃i,i < k/\g=gs i:=by
   intro g Wu;obtain⟨i,hi,e⟩:=List.mem_map.1 Wu;exact⟨i,List.mem_range.1 hi,(Option.some.inj e).symm⟩
 have ZZ:∀(q:Nat) x,c0.rows[q]?=some x->q < j/\cx.rows[σ q]?=some x:=by
   intro q x hx;have hx:((List.range j).map rw)[q]?=some x:=hx;have hl:=(List.getElem?_eq_some_iff.1 hx).1;simp at hl;rw[List.getElem?_map,List.getElem?_range hl] at hx;simp at hx;subst hx;exact⟨hl,hrw q hl⟩
 have oA:∀q,q < j->c0.rows[q]?=some (rw q):=by
   intro q hq;show((List.range j).map rw)[q]?=some (rw q);rw[List.getElem?_map,List.getElem?_range hq];rfl
 have adH:c0.rows.length=j:=by show((List.range j).map rw).length=j;simp
 have Nr:∀g i x,PE cx w g i x->PE c0 w g i x:=by
   intro g i x hx;refine⟨hx.1,λKQ=>?_,hx.2.2⟩;rcases KQ with KQ | ⟨r,n,cap,sz,hr,h1,h2⟩ | KQ
   obtain⟨i',Nq,rfl⟩:=rP g KQ;exact hx.2.1 (.inl (nX i' Nq));exact hx.2.1 (.inr (.inl ⟨σ r,n,cap,sz,(ZZ _ _ hr).2,h1,h2⟩));exact hx.2.1 KQ.2
 have hdn:Dn k j ρ σ cx w c0 w:=⟨Nr,λi g hi Wu=>by
   rw[V9];rw[hgs i hi] at Wu;cases Wu;exact⟨hi,rfl⟩,λq hq=>⟨rw q,hrw q hq,oA q hq⟩⟩
 have Gt:St G c0 w ⟨hm,k,Fm,j⟩:=by
   refine⟨by simp[c0],hd,λi i' g h1 h2=>?_,λg _=>Nat.zero_le _,λid g b h1 h2=>?_,adH.symm,λq g n cap sz hq=>?_,λq n hq=>?_,λg Wu=>?_,(λq i hb=>hs.eQ hb.2),λq q' g n cap sz n' cap' PF h1 h2=>?_,(λg cs Wu=>Bk.plain Nr (hG g cs Wu) (hs.Ph g cs Wu)),Nat.zero_le _⟩;obtain⟨hi,e1⟩:=(V9 i g).1 h1;obtain⟨Nq,e2⟩:=(V9 i' g).1 h2;exact hgi i i' hi Nq (e1.symm.trans e2);obtain⟨hi,rfl⟩:=(V9 id g).1 h1;obtain⟨b',Ve,hn⟩:=cX id b hi h2;obtain⟨o,ho,hb⟩:=hs.box (ρ id) (gs id) _ (hgs id hi) Ve;exact⟨o,ho,hn.down hdn hb⟩;obtain⟨hq1,Zn⟩:=ZZ _ _ hq;obtain⟨_,_,a3,a4,a5⟩:=hs.row _ _ _ _ _ Zn;refine⟨λi hb=>hb.1 (.inr ⟨q,n,cap,sz,hq1,Zn⟩),Nat.zero_le _,λhm'=>?_,a4,a5⟩;obtain⟨i,hi,rfl⟩:=rP g hm';exact a3 (nX i hi);have hlt:=hFm q n hq;have:=hs.Kn _ _ (aCO q n hlt hq);rw[hrw q hlt] at this;rw[oA q hlt];exact this;obtain⟨i,hi,rfl⟩:=rP g Wu;exact hs.QQ (nX i hi);obtain⟨a1,a2⟩:=ZZ _ _ h1;obtain⟨b1,b2⟩:=ZZ _ _ h2;exact asP _ _ a1 b1 (hs.JR _ _ _ _ _ _ _ _ _ a2 b2)
 refine(h c0 w vs Gt (IC.down hdn ha)).mono ?_;rintro e w' ⟨c',hx,Pk,acZ⟩
 have rQ:c'.Dy=c0.Dy:=by
   obtain⟨t,ht⟩:=hx.Dy;have h1:c'.Dy.length=k:=Pk.len.symm;have h2:c0.Dy.length=k:=by simp[c0]
   rw[<- ht,List.length_append,h2] at h1;have:t=[]:=List.eq_nil_of_length_eq_zero (by omega);rw[<- ht,this,List.append_nil]
 have awG:c'.rows.length=j:=Pk.JU.symm;have adI:∀q,q < j->∃y,c'.rows[q]?=some y:=λq hq=>⟨_,List.getElem?_eq_getElem (by rw[awG];exact hq)⟩
 have hle:∀q y,q < j->c'.rows[q]?=some y->Ld (rw q) y:=by
   intro q y hq hy;obtain⟨x,h1,h2⟩:=hx.rows q y (by rw[adH];exact hq) hy;rw[oA q hq] at h1;cases h1;exact h2
 let kC:List Rw:=(List.range cx.rows.length).map λq=>open Classical in if hq:∃r,r < j/\σ r=q then c'.rows.getD (Classical.choose hq) .gone else cx.rows.getD q .gone
 have adJ:kC.length=cx.rows.length:=by simp[kC]
 have Zy:∀r,r < j->kC[σ r]?=c'.rows[r]?:=by
   intro r hr;have hl:=(List.getElem?_eq_some_iff.1 (hrw r hr)).1;show((List.range cx.rows.length).map _)[σ r]?=_;rw[List.getElem?_map,List.getElem?_range hl];simp only[Option.map_some];have hq:∃r',r' < j/\σ r'=σ r:=⟨r,hr,rfl⟩;rw[dif_pos hq];have hc:=Classical.choose_spec hq;have:Classical.choose hq=r:=asP _ _ hc.1 hr hc.2;rw[this];obtain⟨y,hy⟩:=adI r hr;rw[List.getD_eq_getElem?_getD,hy];rfl
 have dB:∀q,(∀r,r < j->q≠σ r)->kC[q]?=cx.rows[q]?:=by
   intro q hq;by_cases hl:q < cx.rows.length;show((List.range cx.rows.length).map _)[q]?=_;rw[List.getElem?_map,List.getElem?_range hl];simp only[Option.map_some];rw[dif_neg (by rintro⟨r,h1,h2⟩;exact hq r h1 h2.symm),List.getD_eq_getElem?_getD,List.getElem?_eq_getElem hl];rfl;rw[List.getElem?_eq_none (by omega),List.getElem?_eq_none (by omega)]
 have S9:∀q:Nat,(∃r,r < j/\q=σ r)\/∀r,r < j->q≠σ r:=λq=>by
   by_cases hq:∃r,r < j/\q=σ r;exact .inl hq;exact .inr λr h1 h2=>hq ⟨r,h1,h2⟩
 have Tx:∀r g n cap sz,r < j->c'.rows[r]?=some (.RC g n cap sz)->(∃r0 n0 RV kT,r0 < j/\cx.rows[σ r0]?=some (.RC g n0 RV kT))\/w.heap.size<=g:=by
   intro r g n cap sz hr hy;rcases hx.kB _ _ _ _ _ hy with ⟨r0,n0,RV,kT,h1⟩ | h1
   obtain⟨h2,h3⟩:=ZZ _ _ h1;exact .inl ⟨r0,n0,RV,kT,h2,h3⟩;exact .inr h1
 have Zw:=hx.below
 have nU:Si w w' K:=⟨Zw.os,Zw.tape,Zw.output,Zw.size,λq hq hne=>hx.UF q hq (λhm'=>hne (.inl (rP q hm'))) (λr n cap sz hr=>hne (by
   obtain⟨h1,h2⟩:=ZZ _ _ hr;exact .inr ⟨r,n,cap,sz,h1,h2⟩))⟩
 have hKb:∀q,K q->cx.base<=q:=by
   rintro q (⟨i,hi,rfl⟩ | ⟨r,n,cap,sz,hr,h1⟩);exact hs.low _ (nX i hi);exact(hs.row _ _ _ _ _ h1).2.1
 let c1:Cx:=⟨cx.base,cx.Dy,kC,cx.bad⟩
 have asR:∀g i x,PE c' w' g i x->PE c1 w' g i x:=by
   intro g i x hv;refine⟨hv.1,λKQ=>hv.2.1 ?_,hv.2.2⟩;have Np:¬K g->cx.xN g i->c'.xN g i:=λh1 h2=>.inr (.inr (by rw[hx.bad];exact⟨h1,h2⟩));rcases KQ with KQ | ⟨q,n,cap,sz,hq,h1,h2⟩ | KQ
   by_cases hK:K g;rcases hK with ⟨i',Nq,rfl⟩ | ⟨r,n,cap,sz,hr,h1⟩
   refine .inl ?_;rw[rQ];exact List.mem_of_getElem? ((V9 i' (gs i')).2 ⟨Nq,rfl⟩);exact absurd KQ (hs.row _ _ _ _ _ h1).2.2.1;exact Np hK (.inl KQ);rcases S9 q with ⟨r,hr,rfl⟩ | mG
   simp only[c1] at hq;rw[Zy r hr] at hq;exact .inr (.inl ⟨r,n,cap,sz,hq,h1,h2⟩);simp only[c1] at hq;rw[dB q mG] at hq;refine Np ?_ (.inr (.inl ⟨q,n,cap,sz,hq,h1,h2⟩));rintro(⟨i',Nq,rfl⟩ | ⟨r,n',cap',PF,hr,h3⟩);exact(hs.row _ _ _ _ _ hq).2.2.1 (nX i' Nq);exact mG r hr (hs.JR _ _ _ _ _ _ _ _ _ hq h3);by_cases hK:K g;rcases hK with ⟨i',Nq,rfl⟩ | ⟨r,n,cap,sz,hr,h1⟩
   refine .inl ?_;rw[rQ];exact List.mem_of_getElem? ((V9 i' (gs i')).2 ⟨Nq,rfl⟩);exact absurd KQ ((hs.row _ _ _ _ _ h1).1 i);exact Np hK (.inr (.inr KQ))
 have ext:Ext cx w c1 w':=by
   refine⟨List.prefix_refl _,by simp[c1,adJ],λq y hq hy=>?_,λg i x hv=>asR g i x (hx.fC g i x (Nr g i x hv)),nU.below hs.RS hKb,rfl,rfl,λ_ h=>.inl h,λq g n cap sz hq=>?_,λq hq hp hr=>nU.block q hq ?_⟩;rcases S9 q with ⟨r,hr,rfl⟩ | mG
   simp only[c1] at hy;rw[Zy r hr] at hy;exact⟨rw r,hrw r hr,hle r y hr hy⟩;simp only[c1] at hy;rw[dB q mG] at hy;exact⟨y,hy,Ld.refl y⟩;rcases S9 q with ⟨r,hr,rfl⟩ | mG
   simp only[c1] at hq;rw[Zy r hr] at hq;rcases Tx _ _ _ _ _ hr hq with ⟨r0,n0,RV,kT,_,h1⟩ | h1
   exact .inl ⟨_,_,_,_,h1⟩;exact .inr h1;simp only[c1] at hq;rw[dB q mG] at hq;exact .inl ⟨_,_,_,_,hq⟩;rintro(⟨i',Nq,rfl⟩ | ⟨r,n',cap',PF,Zo,h3⟩);exact hp (nX i' Nq);exact hr _ _ _ _ h3
 have hup:Up k j ρ σ c' w' c1 w':=⟨asR,λi g hi Wu=>by
   rw[rQ,V9] at Wu;obtain⟨_,rfl⟩:=Wu;exact hgs i hi,λq hq=>by
   obtain⟨y,hy⟩:=adI q hq;exact⟨y,by simp only[c1];rw[Zy q hq];exact hy,hy⟩⟩
 have st1:St G c1 w' s2:=by
   refine⟨by rw[hu.nx,hs.len],by rw[hu.nx];exact hu.desc _ hs.desc,hs.nodup,hs.low,λid g b h1 h2=>?_,by rw[hu.nr,hs.JU];exact adJ.symm,λq g n cap sz hq=>?_,λq n hq=>?_,λg Wu=>Nat.lt_of_lt_of_le (hs.OQ g Wu) nU.size,λg i hb=>Nat.lt_of_lt_of_le (hs.OH g i hb) nU.size,λq q' g n cap sz n' cap' PF h1 h2=>?_,λg cs Wu=>(hs.Ph g cs Wu).mono ext,Nat.le_trans hs.RS nU.size⟩;rcases hu.get id b h2 with ⟨i,b0,hi,rfl,hb0,hn⟩ | ⟨hne,h3⟩
   obtain⟨o,ho,hb⟩:=Pk.box i (gs i) b0 (by rw[rQ];exact(V9 i (gs i)).2 ⟨hi,rfl⟩) hb0;have h1:cx.Dy[ρ i]?=some (some g):=h1;rw[hgs i hi] at h1;cases h1;exact⟨o,ho,hn.up hup hb⟩;obtain⟨o,ho,hb⟩:=hs.box id g b h1 h3;refine⟨o,?_,hb.mono ext⟩;rw[nU.block g (Array.getElem?_eq_some_iff.1 ho).1 ?_];exact ho;rintro(⟨i',Nq,rfl⟩ | ⟨r,n',cap',PF,Zo,h4⟩);exact hne i' Nq (hs.nodup _ _ _ h1 (hgs i' Nq));exact(hs.row _ _ _ _ _ h4).2.2.1 (List.mem_of_getElem? h1);simp only[c1] at hq ⊢;rcases S9 q with ⟨r,Zo,rfl⟩ | mG
   rw[Zy r Zo] at hq;obtain⟨a1,a2,a3,a4,a5⟩:=Pk.row _ _ _ _ _ hq;rcases Tx _ _ _ _ _ Zo hq with ⟨r0,n0,RV,kT,_,h4⟩ | h4
   obtain⟨b1,b2,b3,_⟩:=hs.row _ _ _ _ _ h4;exact⟨b1,b2,b3,a4,a5⟩;refine⟨λi hb=>?_,Nat.le_trans hs.RS h4,λhm'=>?_,a4,a5⟩;have:=hs.OH _ _ hb;omega;have:=hs.QQ hm';omega;rw[dB q mG] at hq;obtain⟨a1,a2,a3,a4,vs',T,a5,a6⟩:=hs.row _ _ _ _ _ hq;refine⟨a1,a2,a3,a4,vs',T,?_,a6⟩;rw[nU.block g (Array.getElem?_eq_some_iff.1 a5).1 ?_];exact a5;rintro(⟨i',Nq,rfl⟩ | ⟨r,n',cap',PF,Zo,h4⟩);exact a3 (nX i' Nq);exact mG r Zo (hs.JR _ _ _ _ _ _ _ _ _ hq h4);simp only[c1];rcases hu.tok q n hq with ⟨r,Zo,rfl,h3⟩ | ⟨mG,h3⟩
   rw[Zy r Zo];exact Pk.Kn r n h3;rw[dB q mG];exact hs.Kn q n h3;simp only[c1] at h1 h2
   have key:∀r q,r < j->(∀r',r' < j->q≠σ r')->∀n cap sz n' cap' PF,c'.rows[r]?=some (.RC g n cap sz)->cx.rows[q]?=some (.RC g n' cap' PF)->False:=by
     intro r q Zo mG n cap sz n' cap' PF e1 e2;rcases Tx _ _ _ _ _ Zo e1 with ⟨r0,n0,RV,kT,rU,h4⟩ | h4
     exact mG r0 rU (hs.JR _ _ _ _ _ _ _ _ _ e2 h4);have:=hs.QT e2;omega
   rcases S9 q with ⟨r,Zo,rfl⟩ | hq1<;>rcases S9 q' with ⟨r2,hr2,rfl⟩ | Zn
   rw[Zy r Zo] at h1;rw[Zy r2 hr2] at h2;rw[Pk.JR _ _ _ _ _ _ _ _ _ h1 h2];rw[Zy r Zo] at h1;rw[dB q' Zn] at h2;exact(key r q' Zo Zn _ _ _ _ _ _ h1 h2).elim;rw[dB q hq1] at h1;rw[Zy r2 hr2] at h2;exact(key r2 q hr2 hq1 _ _ _ _ _ _ h2 h1).elim;rw[dB q hq1] at h1;rw[dB q' Zn] at h2;exact hs.JR _ _ _ _ _ _ _ _ _ h1 h2
 refine⟨c1,ext,st1,?_⟩;cases r with
 | ret v =>
   cases r' with
   | ret v' =>
     obtain⟨u,rfl,hu'⟩:=acZ;exact⟨u,rfl,Rn.up hup hr hu'⟩
   | pan v'=>exact hr.elim
 | pan v =>
   cases r' with
   | ret v'=>exact hr.elim
   | pan v' =>
     obtain⟨u,rfl,hu'⟩:=acZ;exact⟨u,rfl,Rn.up hup hr hu'⟩
end AI
namespace AI
open Go Go.RowKit
def UI:List Bo->Nat->List (Nat×Bo)->List (Nat×Bo)
 | [],_,acc=>acc
 | b::l,n,acc=>UI l (n+1) ((n,b)::acc)
def qA:List Nat->Nat->List (Nat×Nat)
 | [],_=>[]
 | k::l,n=>(n,k)::qA l (n+1)
def oP{M:List Bo}:∀{n:Nat} {acc:List (Nat×Bo)} {i:Nat} {b:Bo},Kt acc n->look i (UI M n acc)=some b->(n<=i/\M[i - n]?=some b)\/look i acc=some b:=by
 induction M with
 | nil=>intro n acc i b _ h;exact .inr h
 | cons x M ih =>
   intro n acc i b hd h;rcases ih (n:=n+1) (acc:=(n,x)::acc) ⟨Nat.lt_succ_self n,hd⟩ h with ⟨h1,h2⟩ | h1
   refine .inl ⟨by omega,?_⟩;rw[show i - n=(i - (n+1))+1 by omega];exact h2;simp only[look] at h1;split at h1;rename_i hb;have:=beq_true hb;subst this;cases h1;exact .inl ⟨Nat.le_refl _,by simp⟩;exact .inr h1
def nA{M:List Bo}:∀{n:Nat} {acc:List (Nat×Bo)},Kt acc n->Kt (UI M n acc) (n+M.length):=by
 induction M with
 | nil=>intro n acc h;exact h
 | cons x M ih =>
   intro n acc h;have:=ih (n:=n+1) (acc:=(n,x)::acc) ⟨Nat.lt_succ_self n,h⟩;rw[List.length_cons,show n+(M.length+1)=n+1+M.length by omega];exact this
def Vv{T:List Nat}:∀{n r k:Nat},Fl r (qA T n)=some k->n<=r/\T[r - n]?=some k:=by
 induction T with
 | nil=>intro n r k h;cases h
 | cons x T ih =>
   intro n r k h;simp only[qA,Fl] at h;split at h;rename_i hb;have:=beq_true hb;subst this;cases h;exact⟨Nat.le_refl _,by simp⟩;obtain⟨h1,h2⟩:=ih h;refine⟨by omega,?_⟩;rw[show r - n=(r - (n+1))+1 by omega];exact h2
def aW{T:List Nat}:∀{n r:Nat},n<=r->r - n < T.length->∃k,Fl r (qA T n)=some k:=by
 induction T with
 | nil=>intro n r _ h;simp at h
 | cons x T ih =>
   intro n r h1 h2;simp only[qA,Fl];split;exact⟨_,rfl⟩;rename_i hb;have:=beq_false hb;exact ih (by omega) (by simp at h2;omega)
inductive Xt(k j:Nat)(ρ σ:Nat->Nat):List Bo->List (Nat×Bo)->Prop where
 | nil:Xt k j ρ σ [] []
 | cons {b b':Bo} {i:Nat} {l:List Bo} {m:List (Nat×Bo)} (h:uK k j ρ σ b b') (t:Xt k j ρ σ l m):Xt k j ρ σ (b::l) ((i,b')::m)
def Xt.len{k j:Nat}{ρ σ:Nat->Nat}{l:List Bo}{m:List (Nat×Bo)}(h:Xt k j ρ σ l m):l.length=m.length:=by
 induction h with
 | nil=>rfl
 | cons _ _ ih=>simp[ih]
def Xt.get{k j:Nat}{ρ σ:Nat->Nat}{l:List Bo}{m:List (Nat×Bo)}(h:Xt k j ρ σ l m):∀{i:Nat} {b:Bo},l[i]?=some b->∃e,m[i]?=some e/\uK k j ρ σ b e.2:=by
 induction h with
 | nil=>intro i b hb;simp at hb
 | cons h _ ih =>
   intro i b hb;cases i with
   | zero=>simp at hb;subst hb;exact⟨_,rfl,h⟩
   | succ i=>exact ih (by simpa using hb)
def Xt.aJF{k j:Nat}{ρ σ:Nat->Nat}{l:List Bo}{m:List (Nat×Bo)}(h:Xt k j ρ σ l m):∀{i:Nat} {e:Nat×Bo},m[i]?=some e->∃b,l[i]?=some b/\uK k j ρ σ b e.2:=by
 induction h with
 | nil=>intro i b hb;simp at hb
 | cons h _ ih =>
   intro i b hb;cases i with
   | zero=>simp at hb;subst hb;exact⟨_,rfl,h⟩
   | succ i=>exact ih (by simpa using hb)
def lA:∀(l:List (Nat×Bo)) (s:AS) (id:Nat) (b:Bo),(s.VN l).get id=some b->(∃e∈l,e.1=id/\e.2=b)\/((∀e∈l,e.1≠id)/\s.get id=some b)
 | [],s,id,b,h=>.inr ⟨(λe he=>by cases he),h⟩
 | e::l,s,id,b,h=>by
   rcases lA l (s.put e.1 e.2) id b h with ⟨x,hx,h1⟩ | ⟨h1,h2⟩
   exact .inl ⟨x,List.mem_cons_of_mem _ hx,h1⟩;rcases Y9 h2 with ⟨h3,h4⟩ | ⟨h3,h4⟩
   exact .inl ⟨e,List.mem_cons_self,h3.symm,h4.symm⟩;refine .inr ⟨λx hx=>?_,h4⟩;rcases List.mem_cons.1 hx with rfl | hx
   exact λe=>h3 e.symm;exact h1 x hx
def bA:∀(l:List (Nat×Bo)) (s:AS),(s.VN l).nx=s.nx/\(s.VN l).nr=s.nr/\(s.VN l).F=s.F/\∀n,Kt s.h n->Kt (s.VN l).h n
 | [],s=>⟨rfl,rfl,rfl,λ_ h=>h⟩
 | e::l,s=>by
   obtain⟨h1,h2,h3,h4⟩:=bA l (s.put e.1 e.2);exact⟨h1,h2,h3,λn h=>h4 n (Y8 h)⟩
def ZV:∀(l:List (Nat×Nat)) (s:AS) (q n:Nat),Fl q (s.S8 l).F=some n->(∃e∈l,e.1=q/\e.2=n)\/((∀e∈l,e.1≠q)/\Fl q s.F=some n)
 | [],s,q,n,h=>.inr ⟨(λe he=>by cases he),h⟩
 | e::l,s,q,n,h=>by
   rcases ZV l _ q n h with ⟨x,hx,h1⟩ | ⟨h1,h2⟩
   exact .inl ⟨x,List.mem_cons_of_mem _ hx,h1⟩;rcases aP h2 with ⟨h3,h4,_⟩ | ⟨h3,h4⟩
   exact .inl ⟨e,List.mem_cons_self,h3.symm,h4.symm⟩;refine .inr ⟨λx hx=>?_,h4⟩;rcases List.mem_cons.1 hx with rfl | hx
   exact λe=>h3 e.symm;exact h1 x hx
def X7:∀(l:List (Nat×Nat)) (s:AS),(s.S8 l).nx=s.nx/\(s.S8 l).nr=s.nr/\(s.S8 l).h=s.h
 | [],s=>⟨rfl,rfl,rfl⟩
 | e::l,s=>X7 l _
def X6:∀{l:List (Nat×Bo)} {s:AS},X5 s l=OC l->∀{i:Nat} {e:Nat×Bo},l[i]?=some e->s.get e.1=some e.2
 | [],s,_,i,e,he=>by simp at he
 | x::l,s,h,i,e,he=>by
   simp only[X5,OC,List.cons.injEq] at h;cases i with
   | zero=>simp at he;subst he;exact h.1
   | succ i=>exact X6 h.2 (by simpa using he)
def iE:∀{l:List (Nat×Nat)} {F:List (Nat×Nat)},ZT F l=O5 l->∀{i:Nat} {e:Nat×Nat},l[i]?=some e->Fl e.1 F=some e.2
 | [],s,_,i,e,he=>by simp at he
 | x::l,s,h,i,e,he=>by
   simp only[ZT,O5,List.cons.injEq] at h;cases i with
   | zero=>simp at he;subst he;exact h.1
   | succ i=>exact iE h.2 (by simpa using he)
mutual
inductive Occ(id:Nat):AV->Prop where
 | ptr {off:Nat}:Occ id (.ptr id off)
 | mp:Occ id (.mp id)
 | msl {off n:Nat}:Occ id (.msl id off n)
 | agg {cs:List AV} (h:Ug id cs):Occ id (.agg cs)
 | fn1 {f:Fn} {a b:List AV} (h:Ug id a):Occ id (.fn f a b)
 | fn2 {f:Fn} {a b:List AV} (h:Ug id b):Occ id (.fn f a b)
inductive Ug(id:Nat):List AV->Prop where
 | here {a:AV} {l:List AV} (h:Occ id a):Ug id (a::l)
 | there {a:AV} {l:List AV} (h:Ug id l):Ug id (a::l)
end
mutual
def Occ.Dy{c:Cx}{w:World}{id:Nat}:∀{a:AV} {v:Value},Occ id a->Rp c w a v->∃g,c.Dy[id]?=some (some g):=by
 intro a v ho h;cases ho with
 | ptr=>cases h with | ptr h1=>exact⟨_,h1⟩
 | mp=>cases h with | mp h1=>exact⟨_,h1⟩
 | msl=>cases h with | msl hn h1=>exact⟨_,h1⟩
 | agg h1=>cases h with | agg h2=>exact Ug.Dy h1 h2
 | fn1 h1=>cases h with | fn h2 h3=>exact Ug.Dy h1 h2
 | fn2 h1=>cases h with | fn h2 h3=>exact Ug.Dy h1 h3
def Ug.Dy{c:Cx}{w:World}{id:Nat}:∀{a:List AV} {v:List Value},Ug id a->CT c w a v->∃g,c.Dy[id]?=some (some g):=by
 intro a v ho h;cases ho with
 | here h1=>cases h with | cons h2 _=>exact Occ.Dy h1 h2
 | there h1=>cases h with | cons _ h2=>exact Ug.Dy h1 h2
end
inductive Rch(args:List AV)(pre:List (Nat×Bo)):Nat->Prop where
 | arg {id:Nat} (h:Ug id args):Rch args pre id
 | box {i id p:Nat} {cs:List AV} (h:Rch args pre i) (hp:pre[p]?=some (i,.cells cs)) (ho:Ug id cs):Rch args pre id
def Rch.Dy{G:Bc}{args:List AV}{pre:List (Nat×Bo)}{s:AS}(hb:X5 s pre=OC pre){cx:Cx}{w:World}{vs:List Value}(hs:St G cx w s)(ha:CT cx w args vs){id:Nat}(h:Rch args pre id):∃g,cx.Dy[id]?=some (some g):=by
 induction h with
 | arg h=>exact h.Dy ha
 | box h hp ho ih =>
   obtain⟨g,hg⟩:=ih;obtain⟨o,_,hbo⟩:=hs.box _ g _ hg (X6 hb hp);cases hbo with
   | I3 ext hr=>exact ho.Dy hr
def Lw{β:Type}(l:List (Nat×β))(i:Nat):Nat:=match l[i]? with
 | some e=>e.1
 | none=>0
def Lx{β:Type}{l:List (Nat×β)}{i:Nat}{e:Nat×β}(h:l[i]?=some e):Lw l i=e.1:=by unfold Lw;rw[h]
def keys{β:Type}(l:List (Nat×β)):List Nat:=l.map (·.1)
def Z3{β:Type}{l:List (Nat×β)}(h:(keys l).Nodup){i i':Nat}(hi:i < l.length)(Nq:i' < l.length)(e:Lw l i=Lw l i'):i=i':=by
 have h1:(keys l)[i]?=some (Lw l i):=by
   unfold keys;rw[List.getElem?_map,List.getElem?_eq_getElem hi,Lx (List.getElem?_eq_getElem hi)];rfl
 have h2:(keys l)[i']?=some (Lw l i'):=by
   unfold keys;rw[List.getElem?_map,List.getElem?_eq_getElem Nq,Lx (List.getElem?_eq_getElem Nq)];rfl
 rw[<- e] at h2;exact wN h h1 h2
def QD{β β':Type}{l:List (Nat×β)}{m:List (Nat×β')}(h:keys l=keys m)(i:Nat):Lw l i=Lw m i:=by
 have h1:=congrArg (λx=>x[i]?) h;unfold keys at h1;simp only[List.getElem?_map] at h1;unfold Lw;cases hl:l[i]?<;>cases hm:m[i]?<;>rw[hl,hm] at h1<;>simp at h1<;>simp[h1]
def Hy{P:Program}{G:Bc}(hG:∀g cs,G g=some cs->BS cs=true){f:FuncId}{args XG:List AV}{r r':CR}{M M2:List Bo}{T T2:List Nat}(pre Q3:List (Nat×Bo))(tp tu:List (Nat×Nat)){k j:Nat}
   (h:Sound P G (.call f args ⟨UI M 0 [],k,qA T 0,j⟩ r ⟨UI M2 0 [],k,qA T2 0,j⟩))
   (hk:M.length=k) (hj:T.length=j) (hj2:T2.length=j)
   (hku:keys Q3=keys pre) (hkt:keys tu=keys tp) (PS:(keys pre).Nodup) (PT:(keys tp).Nodup)
   (htp:tp.map (·.2)=T) (htu:tu.map (·.2)=T2)
   (hb:Xt k j (Lw pre) (Lw tp) M pre) (hb2:Xt k j (Lw pre) (Lw tp) M2 Q3)
   (IC:Ui k j (Lw pre) (Lw tp) args XG)
   (hr:RnR k j (Lw pre) (Lw tp) r r')
   (aKG:∀e∈pre,Rch XG pre e.1):Cd.ok P G (.E9 f XG r' pre tp Q3 tu):=by
 intro s hgb hgf;have hpl:pre.length=k:=by rw[<- hb.len,hk]
 have htl:tp.length=j:=by rw[<- hj,<- htp,List.length_map]
 have hul:Q3.length=k:=by
   have:=congrArg List.length hku;simp only[keys,List.length_map] at this;omega
 have aNQ:tu.length=j:=by rw[<- hj2,<- htu,List.length_map]
 refine avK hG h (by have:=nA (M:=M) (n:=0) (acc:=[]) trivial;rw[Nat.zero_add,hk] at this;exact this) (Lw pre) (Lw tp) (λi i' hi Nq e=>Z3 PS (by omega) (by omega) e) (λi i' hi Nq e=>Z3 PT (by omega) (by omega) e) IC (s:=s) (λi b hi hl=>?_) (λcx w vs hs ha i hi=>?_) (λq n hq hl=>?_) (λq hq=>?_) (λq n hl=>?_) hr ?_;rcases oP (acc:=[]) trivial hl with ⟨_,h1⟩ | h1
 rw[Nat.sub_zero] at h1;obtain⟨e,he,hn⟩:=hb.get h1;exact⟨e.2,by rw[Lx he];exact X6 hgb he,hn⟩;cases h1;have he:pre[i]?=some pre[i]:=List.getElem?_eq_getElem (by omega);rw[Lx he];exact(aKG _ (List.mem_of_getElem? he)).Dy hgb hs ha
 · obtain⟨_,h1⟩:=Vv hl
   rw[Nat.sub_zero,<- htp,List.getElem?_map] at h1;cases he:tp[q]? with
   | none=>rw[he] at h1;cases h1
   | some e =>
     rw[he] at h1;simp at h1;rw[Lx he,<- h1];exact iE hgf he
 exact aW (Nat.zero_le _) (by omega);obtain⟨_,h1⟩:=Vv hl;have:=(List.getElem?_eq_some_iff.1 h1).1;omega
 · obtain⟨a1,a2,a3,a4⟩:=bA Q3 s
   obtain⟨b1,b2,b3⟩:=X7 tu (s.VN Q3);refine⟨by rw[b1,a1],by rw[b2,a2],λn hd=>by rw[b3];exact a4 n hd,λid b hg=>?_,λq n hq=>?_⟩
   · have hg:(s.VN Q3).get id=some b:=by
       unfold AS.get at hg ⊢;rw[b3] at hg;exact hg
     rcases lA Q3 s id b hg with ⟨e,he,rfl,rfl⟩ | ⟨h1,h2⟩
     · obtain⟨i,hi⟩:=List.mem_iff_getElem?.1 he
       have hil:=(List.getElem?_eq_some_iff.1 hi).1;obtain⟨b0,hb0,hn⟩:=hb2.aJF hi;refine .inl ⟨i,b0,by omega,by rw[<- QD hku,Lx hi],?_,hn⟩
       have:∀(M:List Bo) (n:Nat) (acc:List (Nat×Bo)) (i:Nat) (b:Bo),M[i]?=some b->(∀e∈acc,e.1 < n)->look (n+i) (UI M n acc)=some b:=by
         intro M
         induction M with
         | nil=>intro n acc i b h;simp at h
         | cons x M ih =>
           intro n acc i b h iI;cases i with
           | succ i =>
             have:=ih (n+1) ((n,x)::acc) i b (by simpa using h) (λe he=>by
               rcases List.mem_cons.1 he with rfl | he
               exact Nat.lt_succ_self _;have:=iI e he;omega)
             rw[show n+(i+1)=n+1+i by omega];exact this
           | zero =>
             simp at h;subst h;simp only[UI,Nat.add_zero]
             have aCK:∀(M:List Bo) (n':Nat) (acc:List (Nat×Bo)),n < n'->look n (UI M n' acc)=look n acc:=by
               intro M
               induction M with
               | nil=>intro n' acc _;rfl
               | cons y M ih2 =>
                 intro n' acc hlt;simp only[UI];rw[ih2 (n'+1) _ (by omega)];simp only[look]
                 have:Nat.beq n' n=false:=by
                   cases hq:Nat.beq n' n with
                   | false=>rfl
                   | true=>have:=beq_true hq;omega
                 rw[this]
             rw[aCK M (n+1) _ (by omega)];simp only[look];rw[show Nat.beq n n=true from Nat.beq_refl n]
       have:=this M2 0 [] i b0 hb0 (λe he=>by cases he);rwa[Nat.zero_add] at this
     refine .inr ⟨λi hi e=>?_,h2⟩;have he:Q3[i]?=some Q3[i]:=List.getElem?_eq_getElem (by omega);refine h1 _ (List.mem_of_getElem? he) ?_;rw[e,<- QD hku,Lx he]
   rcases ZV tu _ q n hq with ⟨e,he,rfl,rfl⟩ | ⟨h1,h2⟩
   obtain⟨i,hi⟩:=List.mem_iff_getElem?.1 he;have hil:=(List.getElem?_eq_some_iff.1 hi).1;refine .inl ⟨i,by omega,by rw[<- QD hkt,Lx hi],?_⟩;obtain⟨kk,hkk⟩:=aW (T:=T2) (n:=0) (r:=i) (Nat.zero_le _) (by omega);obtain⟨_,h3⟩:=Vv hkk;rw[Nat.sub_zero,<- htu,List.getElem?_map,hi] at h3;simp at h3;rw[hkk,h3];refine .inr ⟨λi hi e=>?_,by rw[<- a3];exact h2⟩;have he:tu[i]?=some tu[i]:=List.getElem?_eq_getElem (by omega);refine h1 _ (List.mem_of_getElem? he) ?_;rw[e,<- QD hkt,Lx he]
end AI
namespace AI
open Go Go.RowKit
section
variable {P:Program} {G:Bc}
def QM(G:Bc)(s0:AS)(r0:CR)(s2:AS):CR->AS->Prop:=λr s'=>match r0 with
 | .ret v=>∃a,r=.ret a/\zK G s0 [a] s' [v] s2
 | .pan v=>∃a,r=.pan a/\zK G s0 [a] s' [v] s2
def B0(hm:P.follows .mixedOrders=true){f:FuncId}{args:List AV}{s0 s2:AS}{r0:CR}(h:WC P G (XS P G) H0 f args s0 (QM G s0 r0 s2)):Sound P G (.call f args s0 r0 s2):=by
 obtain⟨r,s',hj,hq⟩:=h;have hS:=sound (Tv hm) hj;intro cx w vs hs IC;refine(hS cx w vs hs IC).mono ?_;rintro e w' ⟨c',hx,hs',acZ⟩;cases r0 with
 | ret v =>
   obtain⟨a,rfl,hf⟩:=hq;obtain⟨u,rfl,hu⟩:=acZ;obtain⟨c2,x2,Xg,f2⟩:=hf cx w c' w' [u] hx hs hs' (.cons hu .nil);cases f2 with
   | cons f3 _=>exact⟨c2,x2,Xg,u,rfl,f3⟩
 | pan v =>
   obtain⟨a,rfl,hf⟩:=hq;obtain⟨u,rfl,hu⟩:=acZ;obtain⟨c2,x2,Xg,f2⟩:=hf cx w c' w' [u] hx hs hs' (.cons hu .nil);cases f2 with
   | cons f3 _=>exact⟨c2,x2,Xg,u,rfl,f3⟩
def Rr(P:Program)(G:Bc)(fn:Func)(m:Nat)(s0:AS)(Q:AX->List AV->AS->Prop)(v:AV)(s2:AS):Prop:=∀a s',zK G s0 [a] s' [v] s2->RF P fn m Q a s'
def Tl(G:Bc)(m:Nat)(s0:AS)(Q:AX->List AV->AS->Prop)(v:AV)(s2:AS):Prop:=∀a s',zK G s0 [a] s' [v] s2->Uh m Q a s'
def Rr.body{fn:Func}{m:Nat}{s0 s2:AS}{v:AV}:Rr P G fn m s0 (Un P fn m (QM G s0 (.ret v) s2)) v s2:=λa s' hf=>.body ⟨a,rfl,hf⟩
def Tl.body{fn:Func}{m:Nat}{s0 s2:AS}{v:AV}:Tl G m s0 (Un P fn m (QM G s0 (.pan v) s2)) v s2:=λa s' hf=>.body ⟨a,rfl,hf⟩
def Rr.outer{fn:Func}{m id:Nat}{ks:List KI}{s0 s2:AS}{Q:AX->List AV->AS->Prop}{v:AV}(h:Rr P G fn m s0 Q v s2):Rr P G fn m s0 (EP id (Ee P G ks Q)) v s2:=λa s' hf=>(h a s' hf).outer
def Rr.Gb{fn:Func}{m:Nat}{L:Code}{s0 s1 s2:AS}{Q:AX->List AV->AS->Prop}{v:AV}(h:Rr P G fn m s0 Q v s2):Rr P G fn m s0 (TW P G L s1 Q) v s2:=h
def Tl.outer{m id:Nat}{ks:List KI}{s0 s2:AS}{Q:AX->List AV->AS->Prop}{v:AV}(h:Tl G m s0 Q v s2):Tl G m s0 (EP id (Ee P G ks Q)) v s2:=λa s' hf=>(h a s' hf).outer
def Tl.Gb{m:Nat}{L:Code}{s0 s1 s2:AS}{Q:AX->List AV->AS->Prop}{v:AV}(h:Tl G m s0 Q v s2):Tl G m s0 (TW P G L s1 Q) v s2:=h
def Af{f:FuncId}{args:List AV}{v:AV}{pre:List (Nat×Bo)}{tp:List (Nat×Nat)}{Q3:List (Nat×Bo)}{tu:List (Nat×Nat)}(h:Cd.ok P G (.E9 f args (.ret v) pre tp Q3 tu)):PC P G :=
 ⟨.u v pre tp Q3 tu,[.E9 f args (.ret v) pre tp Q3 tu,.yQ (OC pre) (OC pre) (O5 tp) (O5 tp)],⟨h,⟨rfl,rfl⟩,trivial⟩⟩
def anO{f:FuncId}{args V0:List AV}{v:AV}{pre:List (Nat×Bo)}{tp:List (Nat×Nat)}{Q3:List (Nat×Bo)}{tu:List (Nat×Nat)}(w:Wn args V0)(h:Cd.ok P G (.E9 f V0 (.ret v) pre tp Q3 tu)):PC P G :=
 ⟨.u v pre tp Q3 tu,[.E9 f args (.ret v) pre tp Q3 tu,.yQ (OC pre) (OC pre) (O5 tp) (O5 tp)],⟨λs h1 h2 cx wd vs hs ha=>h s h1 h2 cx wd vs hs (w.ok ha),⟨rfl,rfl⟩,trivial⟩⟩
def An{f:FuncId}{args:List AV}{v:AV}{pre:List (Nat×Bo)}{tp:List (Nat×Nat)}{Q3:List (Nat×Bo)}{tu:List (Nat×Nat)}(h:Cd.ok P G (.E9 f args (.pan v) pre tp Q3 tu)):PC P G :=
 ⟨.q v pre tp Q3 tu,[.E9 f args (.pan v) pre tp Q3 tu,.yQ (OC pre) (OC pre) (O5 tp) (O5 tp)],⟨h,⟨rfl,rfl⟩,trivial⟩⟩
def pz(c:Nat):PC P G:=⟨.z c,[],trivial⟩
def mI:PC P G:=⟨.za,[],trivial⟩
end
end AI
namespace AI
open Go Go.RowKit
mutual
def Y6{n m n2 m2:Nat}(h1:n<=n2)(h2:m<=m2):∀{a:AV},under n m a=true->under n2 m2 a=true
 | .sc _,_=>rfl
 | .agg cs,h=>by simp only[under] at h ⊢;exact JY h1 h2 h
 | .CZ cs,h=>by simp only[under] at h ⊢;exact JY h1 h2 h
 | .sl o k cs,h=>by
   simp only[under,Bool.and_eq_true] at h ⊢;refine⟨?_,JY h1 h2 h.2⟩;have h3:=h.1;cases o with
   | row r z=>simp only[decide_eq_true_eq] at h3 ⊢;omega
   | _=>rfl
 | .msl id _ _,h=>by simp only[under,decide_eq_true_eq] at h ⊢;omega
 | .el cs,h=>by simp only[under] at h ⊢;exact JY h1 h2 h
 | .ptr id _,h=>by simp only[under,decide_eq_true_eq] at h ⊢;omega
 | .fn _ a b,h=>by simp only[under,Bool.and_eq_true] at h ⊢;exact⟨JY h1 h2 h.1,JY h1 h2 h.2⟩
 | .ifc _ v,h=>by simp only[under] at h ⊢;exact Y6 h1 h2 h
 | .mp id,h=>by simp only[under,decide_eq_true_eq] at h ⊢;omega
 | .any,_=>rfl
 | .raw _ _ _,_=>rfl
def JY{n m n2 m2:Nat}(h1:n<=n2)(h2:m<=m2):∀{a:List AV},FC n m a=true->FC n2 m2 a=true
 | [],_=>rfl
 | a::l,h=>by simp only[FC,Bool.and_eq_true] at h ⊢;exact⟨Y6 h1 h2 h.1,JY h1 h2 h.2⟩
end
def Wn.z{l m:List AV}(t:Wn l m):Wn (.sl .full 0 []::l) (.sl .lost 0 []::m):=.s rfl t
def rS{P:Program}{G:Bc}{r:HR}{X:Prop}{x:Value}{fn:Func}{m:Nat}{l:List (PC P G)}(R:Vg P G l (Un P fn m (λr _=>∃a,r=.ret a/\Fits 0 0 a (.sc x))) r X)(h:aoA P fn r=some (mH l,.sc x)):X:=Az fn m R h .body .sc
abbrev JJ:=List Value×List AV
def axY:List Value->Nat->Value
 | [],_=>undef
 | v::_,0=>v
 | _::l,k+1=>axY l k
def aDH:List AV->Nat->AV
 | [],_=>.sc undef
 | v::_,0=>v
 | _::l,k+1=>aDH l k
def jn(j:JJ)(k:Nat):Value:=axY j.1 k
def gn(j:JJ)(k:Nat):AV:=aDH j.2 k
def frm:Nat->Nat->List (Nat×AV)->List Nat->Nat->List Nat->Nat->JJ->List AV
 | 0,_,_,_,_,_,_,_=>[]
 | n+1,p,l,bs,kb,gs,kg,j=>(match hd1 p l with
   | some v=>v::frm n (p+1) (l.drop 1) bs kb gs kg j
   | none=>(match hd2 p bs with
     | true=>.sc (jn j kb)::frm n (p+1) l (bs.drop 1) (kb+1) gs kg j
     | false=>(match hd2 p gs with
       | true=>gn j kg::frm n (p+1) l bs kb (gs.drop 1) (kg+1) j
       | false=>.any::frm n (p+1) l bs kb gs kg j)))
where
 hd1 (p:Nat):List (Nat×AV)->Option AV
   | []=>none
   | e::_=>(match Nat.beq e.1 p with | true=>some e.2 | false=>none)
 hd2 (p:Nat):List Nat->Bool
   | []=>false
   | e::_=>Nat.beq e p
structure Mm(κ ν:Type) where
 es:List (κ×ν×Nat)
 cl:Nat
section
variable {κ ν:Type} [DecidableEq κ]
def LZ(k:κ):List (κ×ν×Nat)->Nat->Option (Nat×ν)
 | [],_=>none
 | e::es,i=>if e.1=k then some (i,e.2.1) else LZ k es (i+1)
def Mm.get(m:Mm κ ν)(k:κ):Option ν:=(LZ k m.es 0).map (·.2)
def Mm.set(m:Mm κ ν)(k:κ)(v:ν):Mm κ ν:=match LZ k m.es 0 with
 | some (j,_)=>(match m.es[j]? with | some e=>⟨m.es.set j (k,v,e.2.2),m.cl⟩ | none=>m)
 | none=>⟨m.es++[(k,v,m.cl)],m.cl+1⟩
def Mm.nil:Mm κ ν:=⟨[],0⟩
def wL(k k2:κ)(v:ν)(b:Nat):∀(es:List (κ×ν×Nat)) (i:Nat),LZ k (es++[(k2,v,b)]) i=match LZ k es i with
   | some r=>some r
   | none=>if k2=k then some (i+es.length,v) else none:=by
 intro es
 induction es with
 | nil=>intro i;simp[LZ]
 | cons e es ih =>
   intro i;simp only[List.cons_append,LZ];by_cases he:e.1=k;simp[he];rw[if_neg he,if_neg he,ih (i+1)];cases LZ k es (i+1) with
   | some r=>rfl
   | none=>simp only[List.length_cons];rw[show i+1+es.length=i+(es.length+1) by omega]
def jB{k:κ}:∀{es:List (κ×ν×Nat)} {i j:Nat} {v:ν},LZ k es i=some (j,v)->∃m e,j=i+m/\es[m]?=some e/\e.1=k/\e.2.1=v:=by
 intro es
 induction es with
 | nil=>intro i j v h;cases h
 | cons e es ih =>
   intro i j v h;simp only[LZ] at h;split at h;rename_i he;cases h;exact⟨0,e,rfl,rfl,he,rfl⟩;obtain⟨m,e',h1,h2,h3⟩:=ih h;exact⟨m+1,e',by omega,by simpa using h2,h3⟩
def wM{k:κ}{v:ν}:∀{es:List (κ×ν×Nat)} {i m b:Nat} {v0:ν},LZ k es i=some (i+m,v0)->∀k',LZ k' (es.set m (k,v,b)) i=if k'=k then some (i+m,v) else LZ k' es i:=by
 intro es
 induction es with
 | nil=>intro i m b v0 h;cases h
 | cons e es ih =>
   intro i m b v0 h k';simp only[LZ] at h;split at h;rename_i he;have hm:m=0:=by have h5:=congrArg (λo:Option (Nat×ν)=>o.map (·.1)) h;simp at h5;omega
   subst hm;simp only[List.set_cons_zero,LZ,he];by_cases hk:k'=k;simp[hk];have hk2:¬k=k':=λe=>hk e.symm;simp[hk,hk2]
   · rename_i he
     obtain⟨m',_,hm,_⟩:=jB h;cases m with
     | zero=>omega
     | succ m =>
       simp only[List.set_cons_succ,LZ];have:=ih (i:=i+1) (m:=m) (b:=b) (by rw[show i+1+m=i+(m+1) by omega];exact h) k';by_cases hk:e.1=k';rw[if_pos hk,if_pos hk];have:¬k'=k:=λe'=>he (hk.trans e');simp[this];rw[if_neg hk,if_neg hk,this,show i+1+m=i+(m+1) by omega]
def Mm.WZ(m:Mm κ ν)(k:κ)(v:ν)(k':κ):(m.set k v).get k'=if k'=k then some v else m.get k':=by
 unfold Mm.get Mm.set;cases hf:LZ k m.es 0 with
 | none =>
   simp only;rw[wL];by_cases hk:k'=k;subst hk;rw[hf];simp
   · cases Yc:LZ k' m.es 0 with
     | some r=>simp[hk]
     | none =>
       have hk2:¬k=k':=λe=>hk e.symm;simp[hk,hk2]
 | some r =>
   obtain⟨j,v0⟩:=r;obtain⟨q,e,h1,h2,h3,_⟩:=jB hf;have hj:j=q:=by omega
   subst hj;simp only[h2];rw[wM (i:=0) (m:=j) (v0:=v0) (by rw[Nat.zero_add];exact hf)];by_cases hk:k'=k<;>simp[hk]
end
structure aMX{κ:Type}[DecidableEq κ](d:TypeDesc)(kv:κ->Value):Prop where
 pk:plainKey d=true
 same:∀a b:κ,YT d (kv a) (kv b)=some (decide (b=a))
end AI
namespace AI
open Go Go.RowKit
section
variable {P:Program} {G:Bc} {α:Type} {f:α->List AV} {C:List α->List AV} {k:Nat}
def xM{l:List α}{i:Nat}(y:α)(h:i < l.length):l.set i y=l.take i++y::l.drop (i+1):=by
 rw[List.set_eq_take_append_cons_drop,if_pos h]
def Q8.st(h:Q8 f C k){e:TypeId}(hs:(P.info? e).map (·.size)=some k){l:List α}{i:Nat}{x:α}(hx:l[i]?=some x)(y:α){v:AV}(hv:cellsOf v=f y)(h1:(f y).all one=true):Cd.ok P G (.stB (.cells (C l)) e (0+i*k) v (.cells (C (l.set i y)))):=by
 intro s id hg;have hlt:=(List.getElem?_eq_some_iff.1 hx).1;have hle:i*k+k<=l.length*k:=by have:=Nat.mul_le_mul_right k hlt;rw[Nat.succ_mul] at this;exact this
 cases hi:P.info? e with
 | none=>rw[hi] at hs;cases hs
 | some j =>
   rw[hi] at hs;have hk:j.size=k:=by simpa using hs
   unfold L2;rw[hi];simp only[hg];rw[hv,hk,h.eq,Nat.zero_add,if_pos ⟨h.len y,h1,by rw[Sb h.len];exact hle⟩,h.eq];congr 3;unfold JW;rw[h.len y,Wk h.len,show i*k+k=(i+1)*k by rw[Nat.succ_mul],Wj h.len,xM y hlt,Wi,I1,List.append_assoc]
end
end AI
namespace AI
open Go Go.RowKit
section
variable {P:Program} {G:Bc}
def aBM(n:Nat):List Nat->Bool
 | []=>false
 | k::l=>Nat.beq n k||aBM n l
def YF(ks:List Nat):List (Nat×Bo)->List (Nat×Bo)
 | []=>[]
 | e::l=>match aBM e.1 ks with
   | true=>e::YF ks l
   | false=>YF ks l
def TJ{ks:List Nat}:∀{l:List (Nat×Bo)} {n:Nat},Kt l n->Kt (YF ks l) n
 | [],_,_=>trivial
 | e::l,n,h=>by
   simp only[YF];split;exact⟨h.1,TJ h.2⟩;exact(TJ h.2).mono (Nat.le_of_lt h.1)
def TK{ks:List Nat}{id:Nat}{b:Bo}:∀{l:List (Nat×Bo)} {n:Nat},Kt l n->look id (YF ks l)=some b->look id l=some b
 | [],_,_,h=>h
 | e::l,n,hd,h=>by
   simp only[YF] at h;split at h;simp only[look] at h ⊢;split at h;exact h;exact TK hd.2 h;have h1:=TK hd.2 h;have h2:=dQ hd.2 h1;simp only[look];split;rename_i hb;have:=beq_true hb;omega;exact h1
def AS.pick(s:AS)(ks:List Nat):AS:=⟨YF ks s.h,s.nx,s.F,s.nr⟩
def St.pick{c:Cx}{w:World}{s:AS}(h:St G c w s)(ks:List Nat):St G c w (s.pick ks) :=
 ⟨h.len,TJ h.desc,h.nodup,h.low,λid g b h1 h2=>h.box id g b h1 (TK h.desc h2),h.JU,h.row,h.Kn,h.OQ,h.OH,h.JR,h.Ph,h.RS⟩
inductive RnH(dn dr nx nr:Nat):List (Nat×Bo)->List (Nat×Bo)->Prop where
 | nil:RnH dn dr nx nr [] []
 | cons {i:Nat} {b b':Bo} {l m:List (Nat×Bo)} (h:uK dn dr (λi=>nx+i) (λr=>nr+r) b b') (t:RnH dn dr nx nr l m):RnH dn dr nx nr ((i,b)::l) ((nx+i,b')::m)
def RnH.desc{dn dr nx nr:Nat}{l m h:List (Nat×Bo)}(hr:RnH dn dr nx nr l m)(hh:Kt h nx):∀{n:Nat},Kt l n->Kt (m++h) (nx+n):=by
 induction hr with
 | nil=>intro n _;exact hh.mono (Nat.le_add_right _ _)
 | cons h1 t ih=>intro n hd;exact⟨Nat.add_lt_add_left hd.1 _,ih hd.2⟩
def RnH.look{dn dr nx nr id:Nat}{b:Bo}{l m h:List (Nat×Bo)}(hr:RnH dn dr nx nr l m)(hb:AI.look id (m++h)=some b):(∃i b0,id=nx+i/\AI.look i l=some b0/\uK dn dr (λi=>nx+i) (λr=>nr+r) b0 b)\/AI.look id h=some b:=by
 induction hr with
 | nil=>exact .inr hb
 | @cons i b0 b1 l m h1 t ih =>
   simp only[List.cons_append,AI.look] at hb;split at hb;rename_i he;cases hb;refine .inl ⟨i,b0,(beq_true he).symm,?_,h1⟩;simp only[AI.look];rw[Nat.beq_refl];rename_i he;have hne:=beq_false he;rcases ih hb with ⟨i',b',e,h2,h3⟩ | h2
   refine .inl ⟨i',b',e,?_,h3⟩;simp only[AI.look];split;rename_i h4;have:=beq_true h4;omega;exact h2;exact .inr h2
end
end AI
namespace AI
open Go Go.RowKit
section
variable {P:Program} {G:Bc}
def Q8.auJ{α:Type}{f:α->List AV}{C:List α->List AV}{k:Nat}(h:Q8 f C k)(h1:∀x,(f x).all one=true)(m:List α):(C m).all one=true:=by
 rw[h.eq,List.all_eq_true];intro a ha;obtain⟨x,_,hx⟩:=List.mem_flatMap.1 ha;exact List.all_eq_true.1 (h1 x) a hx
def Q8.ga{α:Type}{f:α->List AV}{C:List α->List AV}{k:Nat}(h:Q8 f C k){t tx e e2 by':Nat}(hu:P.underlying t=some (.slice e))(hux:P.underlying tx=some (.slice e2))(hi:(P.info? e).map (λi=>(i.size,i.bytes,i.zero.map (·.cells.size)))=some (k,by',some k))(hk:0 < k)(hb:by'<=10000)
   (own:Own) (l m:List α) {o:Own} (s:AS) (hm:m.length=0) (hlen:l.length+m.length<=100000000):Cd.ok P G (.Ws s t tx (.sl own l.length (C l)) (.sl o m.length (C m)) (.sl own l.length (C l)) s):=by
 have hm0:m=[]:=List.eq_nil_of_length_eq_zero hm;subst hm0;cases hq:P.info? e with
 | none=>rw[hq] at hi;cases hi
 | some i =>
   rw[hq] at hi;simp only[Option.map_some,Option.some.injEq,Prod.mk.injEq] at hi;obtain⟨h1,h2,h3⟩:=hi;cases hz:i.zero with
   | none=>rw[hz] at h3;cases h3
   | some z =>
     rw[hz] at h3;simp only[Option.map_some,Option.some.injEq] at h3;have hc:C []=[]:=by rw[h.eq];rfl
     have vW:(C l).length=l.length*k:=by rw[h.eq,Sb h.len]
     refine⟨.sl own l.length (C l),?_,λc w u hr=>hr⟩
     have hs:gG P s i.size tx (.sl o ([]:List α).length (C []))=some (0,[]):=by
       unfold gG;rw[hux,hc];simp
     unfold Mc;simp only[hu,hq,hz];rw[if_pos ⟨by rw[h3,h1],by omega⟩,hs];simp only[List.length_nil] at hlen ⊢
     have hbb:(l.length+0)*i.bytes<=140737488355328:=by
       rw[h2];exact Nat.le_trans (Nat.mul_le_mul hlen hb) (by decide)
     rw[if_pos ⟨by rw[vW,h1],rfl,hbb,by omega⟩,if_pos trivial]
def aLY{s:AS}{t tx:TypeId}{a b:AV}(h:Cd.ok P G (.Ws s t tx a b a s)):PC P G:=⟨.ae a,[.Ws s t tx a b a s],⟨h,trivial⟩⟩
end
end AI
namespace AI
open Go Go.RowKit
def arS:Nat->Nat->List Nat->List Nat
 | 0,_,acc=>acc
 | k+1,n,acc=>match Nat.ble n 1 with
   | true=>acc
   | false=>arS k (n / 2) (n % 2::acc)
def sb(c:Code)(n:Nat):Code:=sub c (arS 200 n [])
def wk1(a:AV):AV->AV
 | .any=>nC a
 | .sl .lost _ _=>(match a with
   | .sl _ n cs=>.sl .lost n cs
   | a=>a)
 | _=>a
def azX{c:Cx}{w:World}{a b:AV}{v:Value}(hr:Rp c w a v):Rp c w (wk1 a b) v:=by
 unfold wk1;split;exact vK hr;split;cases hr with
 | sl0 _=>exact .sl0 trivial
 | M4 hn hc _=>exact .M4 hn hc trivial
 exact hr;exact hr
def wkF:List AV->List AV->List AV
 | a::l,b::k=>wk1 a b::wkF l k
 | l,_=>l
def Sg{c:Cx}{w:World}:∀{l k:List AV} {vs:List Value},CT c w l vs->CT c w (wkF l k) vs
 | [],k,_,h=>by cases k<;>exact h
 | a::l,[],_,h=>h
 | a::l,b::k,_,h=>by cases h with | cons h1 t=>exact .cons (azX h1) (Sg t)
def oX(n:Nat):AV->Bool
 | .fn _ a b=>wP a&&wP b
 | a=>obv n a
where
 wP:List AV->Bool
   | []=>true
   | a::l=>obv n a&&wP l
def W7{n m:Nat}:∀{l:List AV},oX.wP n l=true->FC n m l=true
 | [],_=>rfl
 | a::l,h=>by
   simp only[oX.wP,Bool.and_eq_true] at h;simp only[FC,Bool.and_eq_true];refine⟨?_,W7 h.2⟩;have h1:=h.1;cases a<;>simp only[obv] at h1<;>first | rfl | (cases h1;done) | exact decide_eq_true (Nat.le_of_ble_eq_true h1)
def anC{n m:Nat}{a:AV}(h:oX n a=true):Fits n m a a:=by
 cases a with
 | fn f a b =>
   simp only[oX,Bool.and_eq_true] at h;exact .under (by simp only[under,Bool.and_eq_true];exact⟨W7 h.1,W7 h.2⟩)
 | _=>exact ayC h
def oQ(r:List AV->MR)(n:Nat)(a:AV)(bs:List AV):MR:=match oX n a with
 | true=>sL a (r bs)
 | false=>none
def ZB(n:Nat):List AV->List AV->List AV->MR
 | [],_,[]=>some ([],[])
 | [],_,_::_=>none
 | a::l,[],bs=>sM (ZB n l []) a bs
 | a::l,b::k,bs=>match R0 b with
   | true=>sM (ZB n l k) a bs
   | false=>(match oX n b with
     | true=>oQ (ZB n l k) n a bs
     | false=>axS (ZB n l k) a bs)
def wI{n m:Nat}{r:List AV->MR}{l:List AV}(hr:∀(fps:List (FP n m)) l2,r (mD fps)=some (l2,rD fps)->KX n m l l2){a:AV}{fps:List (FP n m)}{l2:List AV}(h:oQ r n a (mD fps)=some (l2,rD fps)):KX n m (a::l) l2:=by
 unfold oQ at h;split at h;rename_i ho;unfold sL at h;split at h;rename_i l3 as h1;cases h;exact .cons (anC ho) (hr fps _ h1);cases h;cases h
def amZ{n m:Nat}:∀{l k:List AV} {fps:List (FP n m)} {l2:List AV},ZB n l k (mD fps)=some (l2,rD fps)->KX n m l l2:=by
 intro l
 induction l with
 | nil =>
   intro k fps l2 h;cases fps with
   | nil=>simp only[mD,ZB] at h;cases h;exact .nil
   | cons p fps=>simp only[mD,ZB] at h;cases h
 | cons a l ih =>
   intro k fps l2 h;cases k with
   | nil=>simp only[ZB] at h;exact iX (λfps l2 h=>ih h) h
   | cons b k =>
     simp only[ZB] at h;split at h;exact iX (λfps l2 h=>ih h) h;split at h;exact wI (λfps l2 h=>ih h) h;exact amX (λfps l2 h=>ih h) h
abbrev FO(n m:Nat):=Option (FB n m)
def yS{n m:Nat}:List (FO n m)->List (Option Bo)
 | []=>[]
 | none::l=>none::yS l
 | some p::l=>some p.a::yS l
def nK{n m:Nat}:List (FO n m)->List (Option Bo)
 | []=>[]
 | none::l=>none::nK l
 | some p::l=>some p.b::nK l
def aLU(n:Nat):Bo->Bool
 | .cells cs=>oX.wP n cs
 | _=>false
abbrev BO:=Option (List (Nat×Bo)×List (Option Bo))
def sS(id:Nat)(a:Option Bo)(b:Bo):BO->BO
 | some (l,as)=>some ((id,b)::l,a::as)
 | none=>none
def Zt(n:Nat):List (Nat×Bo)->List (Option Bo)->BO
 | [],[]=>some ([],[])
 | e::l,none::bs=>(match aLU n e.2 with
   | true=>sS e.1 none e.2 (Zt n l bs)
   | false=>none)
 | e::l,some b::bs=>sS e.1 (some e.2) b (Zt n l bs)
 | _,_=>none
def akN{n m:Nat}:∀{l:List (Nat×Bo)} {WX:List (FO n m)} {l2:List (Nat×Bo)},Zt n l (nK WX)=some (l2,yS WX)->(∀k,Kt l k->Kt l2 k)/\∀id b,look id l2=some b->∃b',look id l=some b'/\S1 n m b' b:=by
 intro l
 induction l with
 | nil =>
   intro WX l2 h;cases WX with
   | nil=>simp only[nK,Zt] at h;cases h;exact⟨λ_ _=>trivial,λid b h=>by cases h⟩
   | cons p WX=>cases p<;>(simp only[nK,Zt] at h;cases h)
 | cons e l ih =>
   intro WX l2 h
   have fin:∀{WX:List (FO n m)} {l3:List (Nat×Bo)} {b2:Bo},Zt n l (nK WX)=some (l3,yS WX)->S1 n m e.2 b2->(∀k,Kt (e::l) k->Kt ((e.1,b2)::l3) k)/\∀id b,look id ((e.1,b2)::l3)=some b->∃b',look id (e::l)=some b'/\S1 n m b' b:=by
     intro WX l3 b2 h1 hf;obtain⟨hd,hl⟩:=ih h1;refine⟨λk hk=>⟨hk.1,hd _ hk.2⟩,λid b hb=>?_⟩;simp only[look] at hb ⊢;split at hb;cases hb;exact⟨e.2,rfl,hf⟩;exact hl id b hb
   cases WX with
   | nil=>simp only[nK,Zt] at h;cases h
   | cons p WX =>
     cases p with
     | none =>
       simp only[nK,Zt] at h;split at h;rename_i ho;unfold sS at h;split at h;rename_i l3 as h1;simp only[yS,Option.some.injEq,Prod.mk.injEq,List.cons.injEq,true_and] at h;obtain⟨rfl,rfl⟩:=h;refine fin h1 ?_;cases he:e.2 with
       | cells cs=>rw[he] at ho;exact .cells (.under (W7 ho))
       | _=>rw[he] at ho;cases ho
       cases h;cases h
     | some p =>
       simp only[nK,Zt] at h;unfold sS at h;split at h;rename_i l3 as h1;simp only[yS,Option.some.injEq,Prod.mk.injEq,List.cons.injEq] at h;obtain⟨rfl,h2,rfl⟩:=h;exact fin h1 (by rw[h2];exact p.h);cases h
abbrev RO2:=Option (List AV×AS×List AV×List (Option Bo))
def afS(pY:List AV)(n m:Nat)(fr':List AV)(s':AS)(bs:List AV)(cs:List (Option Bo)):RO2 :=
 match ZB n fr' pY bs with
 | some (fr2,as)=>(match Zt n (Uv n s'.h) cs with
   | some (h2,cas)=>some (fr2,⟨h2,n,ZS m s'.F,m⟩,as,cas)
   | none=>none)
 | none=>none
section
variable {P:Program} {G:Bc}
def eG(hG:∀g cs,G g=some cs->BS cs=true){pY:List AV}{s0:AS}{fr':List AV}{s':AS}{fps:List (FP s0.nx s0.nr)}{WX:List (FO s0.nx s0.nr)}{fr2:List AV}{s2:AS}(h:afS pY s0.nx s0.nr fr' s' (mD fps) (nK WX)=some (fr2,s2,rD fps,yS WX)):zK G s0 fr' s' fr2 s2:=by
 unfold afS at h;split at h;rename_i f1 as hm;split at h;rename_i h1 cas hb;simp only[Option.some.injEq,Prod.mk.injEq] at h;obtain⟨rfl,rfl,rfl,rfl⟩:=h;intro cx w c' w' vs hx hs hs' hfr;obtain⟨hd,hl⟩:=akN hb;refine alJ (s:=s0) (s2:=⟨h1,s0.nx,ZS s0.nr s'.F,s0.nr⟩) hG rfl rfl (hd _ (abE hs'.desc)) (λid b hb=>?_) (λr n hr=>abT hr) (amZ hm) cx w c' w' vs hx hs hs' hfr;obtain⟨b',h3,h4⟩:=hl id b hb;exact⟨b',XW hs'.desc h3,h4⟩;cases h;cases h
def zK.wk{s0 s':AS}{fr' k:List AV}:zK G s0 fr' s' (wkF fr' k) s':=λ_ _ c' _ _ hx _ hs' hfr=>⟨c',hx,hs',Sg hfr⟩
def xC(pY:List AV):HR->Option (AX×List Cd×List AV×AS)
 | some (.fin e,[],cd,fr,s)=>some (e,cd,wkF fr pY,s)
 | _=>none
def Hg{r:HR}{X:Prop}{L:Code}{s0:AS}{Q:AX->List AV->AS->Prop}{l:List (PC P G)}{fr2:List AV}{s2:AS}(R:Vg P G l (TW P G L s0 Q) r X)(h:xC fr2 r=some (.normal,mH l,fr2,s2))(k:WL P G (XS P G) H0 L fr2 s2 Q):X:=by
 unfold xC at h;split at h;simp only[Option.some.injEq,Prod.mk.injEq] at h;obtain⟨rfl,rfl,h3,rfl⟩:=h;exact R _ _ _ _ rfl (Pn l) ⟨_,_,h3▸zK.wk,k⟩;cases h
def DU{r:HR}{X:Prop}{L:Code}{s0:AS}{Q:AX->List AV->AS->Prop}{l:List (PC P G)}{id:Nat}{fr2:List AV}{s2:AS}(R:Vg P G l (TW P G L s0 Q) r X)(h:xC fr2 r=some (.exit id,mH l,fr2,s2))(k:Q (.exit id) fr2 s2):X:=by
 unfold xC at h;split at h;simp only[Option.some.injEq,Prod.mk.injEq] at h;obtain⟨rfl,rfl,h3,rfl⟩:=h;exact R _ _ _ _ rfl (Pn l) ⟨_,_,h3▸zK.wk,k⟩;cases h
def atF(pY:List AV)(n m:Nat)(bs:List AV)(cs:List (Option Bo)):HR->Option (AX×List Cd×List AV×AS×List AV×List (Option Bo))
 | some (.fin e,[],cd,fr,s)=>(match afS pY n m fr s bs cs with
   | some (fr2,s2,as,cas)=>some (e,cd,fr2,s2,as,cas)
   | none=>none)
 | _=>none
def Gh(hG:∀g cs,G g=some cs->BS cs=true){r:HR}{X:Prop}{L:Code}{s0:AS}{Q:AX->List AV->AS->Prop}{l:List (PC P G)}(fps:List (FP s0.nx s0.nr))(WX:List (FO s0.nx s0.nr)){fr2:List AV}{s2:AS}(R:Vg P G l (TW P G L s0 Q) r X)
   (h:atF fr2 s0.nx s0.nr (mD fps) (nK WX) r=some (.normal,mH l,fr2,s2,rD fps,yS WX)) (k:WL P G (XS P G) H0 L fr2 s2 Q):X:=by
 unfold atF at h;split at h;split at h;rename_i h1;simp only[Option.some.injEq,Prod.mk.injEq] at h;obtain⟨rfl,rfl,rfl,rfl,rfl,rfl⟩:=h;exact R _ _ _ _ rfl (Pn l) ⟨_,_,eG hG h1,k⟩;cases h;cases h
def aDR(n m0:Nat)(P:Program)(fn:Func)(m:Nat)(e0:AX)(pY bs:List AV)(cs:List (Option Bo)):HR->Option (AX×List Cd×List AV×AS×List AV×List (Option Bo))
 | some (.fin e,[],cd,fr,s)=>(match JF P s fn fr with
   | some v=>(match afS pY n m0 [v] (s.cut m) bs cs with
     | some (fr2,s2,as,cas)=>some (e,cd,fr2,s2,as,cas)
     | none=>none)
   | none=>none)
 | _=>none
def Aw(hG:∀g cs,G g=some cs->BS cs=true){r:HR}{X:Prop}{s0:AS}{Q:AX->List AV->AS->Prop}(fn:Func)(m:Nat){l:List (PC P G)}(fps:List (FP s0.nx s0.nr))(WX:List (FO s0.nx s0.nr)){v:AV}{s2:AS}(R:Vg P G l Q r X)
   (h:aDR s0.nx s0.nr P fn m .ret [v] (mD fps) (nK WX) r=some (.ret,mH l,[v],s2,rD fps,yS WX)) (k:Rr P G fn m s0 Q v s2):X:=by
 unfold aDR at h;split at h;split at h;rename_i v' hv;split at h;rename_i h1;simp only[Option.some.injEq,Prod.mk.injEq] at h;obtain⟨rfl,rfl,rfl,rfl,rfl,rfl⟩:=h;exact R _ _ _ _ rfl (Pn l) (k _ _ (eG hG h1) _ _ hv rfl);cases h;cases h;cases h
def aAI(z:List NZ)(pY:List AV):HR->Option (List Cd×Nat×Code×List KI×List AV×AS)
 | some (.at id c ks,[],cd,fr,s)=>(match nzs z fr s with
   | some (fr2,s2)=>some (cd,id,c,ks,wkF fr2 pY,s2)
   | none=>none)
 | _=>none
def G6{r:HR}{X:Prop}{Q:AX->List AV->AS->Prop}{l:List (PC P G)}(z:List NZ)(id:Nat)(L:Code)(Wc:List KI){fr2:List AV}{s2:AS}(R:Vg P G l Q r X)
   (h:aAI z fr2 r=some (mH l,id,L,Wc,fr2,s2)) (k:WL P G (XS P G) H0 L fr2 s2 (EP id (Ee P G Wc Q))):X:=by
 unfold aAI at h;split at h;split at h;rename_i fr3 s3 hz;simp only[Option.some.injEq,Prod.mk.injEq] at h;obtain⟨rfl,rfl,rfl,rfl,h5,rfl⟩:=h;refine R _ _ _ _ rfl (Pn l) ?_;obtain⟨e3,fr4,s4,h3,h4⟩:=k;refine⟨e3,fr4,s4,.atV (λcx w vs hs hr=>?_) h3,h4⟩;obtain⟨c2,x2,Xg,r2⟩:=oV hz cx w vs hs hr;exact⟨c2,x2,Xg,h5▸Sg r2⟩;cases h;cases h
def jv(j:List Value)(k:Nat):Value:=axY j k
def hdv(p:Nat):List (Nat×Value)->Option Value
 | []=>none
 | e::_=>(match Nat.beq e.1 p with | true=>some e.2 | false=>none)
def jsN(j:List Value)(l:List (Nat×Value))(k:Nat):Nat->List Value
 | 0=>[]
 | n+1=>(match hdv k l with
   | some v=>v::jsN j (l.drop 1) (k+1) n
   | none=>jv j k::jsN j l (k+1) n)
def js(n:Nat)(j:List Value)(l:List (Nat×Value)):List Value:=jsN j l 0 n
def frQ:Nat->Nat->List (Nat×AV)->List Nat->Nat->List Value->List AV
 | 0,_,_,_,_,_=>[]
 | n+1,p,l,bs,kb,j=>(match frm.hd1 p l with
   | some v=>v::frQ n (p+1) (l.drop 1) bs kb j
   | none=>(match frm.hd2 p bs with
     | true=>.sc (jv j kb)::frQ n (p+1) l (bs.drop 1) (kb+1) j
     | false=>.any::frQ n (p+1) l bs kb j))
def fr(n:Nat)(l:List (Nat×AV))(bs:List Nat)(j:List Value):List AV:=frQ n 0 l bs 0 j
def exR{δ:Type}(Q:AX->List AV->AS->Prop)(id:Nat)(F:δ->List Value->List AV)(S:δ->AS)(d:δ):Prop:=∀j,Q (.exit id) (F d j) (S d)
section loops
variable {α γ δ ρ β:Type} {id:Nat} {L:Code} {Wc:List KI} {Q:AX->List AV->AS->Prop} {done:γ->δ} {X:Prop} {k:δ->Option β} {kr:ρ->Option β} {r:β}
def RL(Rv:(AX->List AV->AS->Prop)->ρ->Prop){body:Nat->α->γ->Option (Lp γ δ ρ)}{l:List α}{i0:Nat}{x:γ}(F:Nat->γ->List Value->List AV)(S:γ->AS)(XF:δ->List Value->List AV)(SX:δ->AS)(j:List Value)
   (RD:WL P G (XS P G) H0 L (F i0 x j) (S x) (EP id (Ee P G Wc Q))->X)
   (hz:∀i x j,l.length<=i->exR (EP id (Ee P G Wc Q)) id XF SX (done x)->W P G (XS P G) H0 L (F i x j) (S x) (TW P G L (S x) (EP id (Ee P G Wc Q))))
   (hs:∀i y x j r,l[i]?=some y->i < l.length->i < 9223372036854775807->RQ (λx'=>∀j',WL P G (XS P G) H0 L (F (i+1) x' j') (S x') (EP id (Ee P G Wc Q))) (exR (EP id (Ee P G Wc Q)) id XF SX) (Rv (EP id (Ee P G Wc Q))) r->body i y x=some r->W P G (XS P G) H0 L (F i x j) (S x) (TW P G L (S x) (EP id (Ee P G Wc Q))))
   (hb:∀d j,k d=some r->Ee P G Wc Q .normal (XF d j) (SX d)) (hr:∀v,kr v=some r->Rv (EP id (Ee P G Wc Q)) v) :
   (Tc l.length (C4 body done (l.drop i0) i0 x)).bind (MC k kr)=some r->X:=λh=>by
 obtain⟨res,h1,h2⟩:=gK h;obtain⟨hl,h1⟩:=aLQ h1;refine RD (akE l F (λ_ x _=>S x) (λ_=>True) (exR (EP id (Ee P G Wc Q)) id XF SX) (Rv (EP id (Ee P G Wc Q))) (λi x j _ h3 h4=>bQ (hz i x j h3 h4)) (λi y x j r _ h3 h4 h5 h6=>bQ (hs i y x j r h3 h4 (by omega) (by cases r with | nx _=>exact λj'=>h6 j' trivial | ex _=>exact h6 | rt _=>exact h6) h5)) i0 h1 ?_ j trivial)
 cases res with
 | inl d =>
   intro j;show Ee P G Wc Q (E5 id (.exit id)) _ _;rw[show E5 id (.exit id)=.normal from by simp[E5]];exact hb d j h2
 | inr v=>exact hr v h2
def Pb(Rv:(AX->List AV->AS->Prop)->ρ->Prop){body:γ->Option (Lp γ δ ρ)}{x:γ}(F:γ->List Value->List AV)(S:γ->AS)(XF:δ->List Value->List AV)(SX:δ->AS)(j:List Value)
   (RD:WL P G (XS P G) H0 L (F x j) (S x) (EP id (Ee P G Wc Q))->X)
   (hs:∀x j r,RQ (λx'=>∀j',WL P G (XS P G) H0 L (F x' j') (S x') (EP id (Ee P G Wc Q))) (exR (EP id (Ee P G Wc Q)) id XF SX) (Rv (EP id (Ee P G Wc Q))) r->body x=some r->W P G (XS P G) H0 L (F x j) (S x) (TW P G L (S x) (EP id (Ee P G Wc Q))))
   (hb:∀d j,k d=some r->Ee P G Wc Q .normal (XF d j) (SX d)) (hr:∀v,kr v=some r->Rv (EP id (Ee P G Wc Q)) v) :
   (L5 body x).bind (MC k kr)=some r->X:=λh=>by
 obtain⟨res,h1,h2⟩:=gK h;obtain⟨n,h1⟩:=alH h1;refine RD (akF F (λx _=>S x) (λ_=>True) (exR (EP id (Ee P G Wc Q)) id XF SX) (Rv (EP id (Ee P G Wc Q))) (λx j r _ h5 h6=>bQ (hs x j r (by cases r with | nx _=>exact λj'=>h6 j' trivial | ex _=>exact h6 | rt _=>exact h6) h5)) n h1 ?_ j trivial)
 cases res with
 | inl d =>
   intro j;show Ee P G Wc Q (E5 id (.exit id)) _ _;rw[show E5 id (.exit id)=.normal from by simp[E5]];exact hb d j h2
 | inr v=>exact hr v h2
end loops
def Ht{ks:List KI}{fr:List AV}{s:AS}{Q:AX->List AV->AS->Prop}(n:Nat)(l:List (PC P G)):Vg P G l Q (Ru (Tw P G n) ks .normal (pHs l) fr s) (Ee P G ks Q .normal fr s):=λ_ _ _ _ h hc hk=>cU (cW n) ks _ h hc hk
def pi{i:Nat}(h:i < 9223372036854775807):PC P G:=aLZ i h
def bp{n m:Nat}{a:List AV}(h:BS a=true):FO n m:=some ⟨.cells a,.cells a,.cells (.plain h)⟩
def bu{n m:Nat}(a:List AV)(h:FC n m a=true):FO n m:=some ⟨.cells a,.cells a,.cells (.under h)⟩
def bw{n m:Nat}(a b:Bo)(h:S1 n m a b):FO n m:=some ⟨a,b,h⟩
end
end AI
namespace AI
open Go Go.RowKit
section
variable {P:Program} {G:Bc}
def arM(G:Bc)(s:AS)(a v:AV):Prop:=∀(c:Cx) (w:World) (u:Value),St G c w s->(∀g,some g∈c.Dy->∀i,¬c.bad g i)->Rp c w a u->Rp (c.upto 0 0) w v u
inductive Fz(s:AS):List AV->List AV->Prop where
 | nil:Fz s [] []
 | r {a b:AV} {l k:List AV} (h:Fits 0 0 a b) (t:Fz s l k):Fz s (a::l) (b::k)
 | f {id n:Nat} {cs l k:List AV} (h:s.get id=some (.cells cs)) (hp:BS cs=true) (t:Fz s l k):Fz s (.msl id 0 n::l) (.sl .lost n cs::k)
 | g {cs ds l k:List AV} (h:Fz s cs ds) (t:Fz s l k):Fz s (.agg cs::l) (.agg ds::k)
 | u {cs ds l k:List AV} (h:Fz s cs ds) (t:Fz s l k):Fz s (.CZ cs::l) (.CZ ds::k)
def Fz.ok{s:AS}{c:Cx}{w:World}(hs:St G c w s)(hb:∀g,some g∈c.Dy->∀i,¬c.bad g i){l k:List AV}(h:Fz s l k):∀{us:List Value},CT c w l us->CT (c.upto 0 0) w k us:=by
 induction h with
 | nil=>intro us hr;cases hr;exact .nil
 | r h _ ih=>intro us hr;cases hr with | cons h1 t=>exact .cons (h _ _ _ h1) (ih t)
 | @f id n cs l k h hp _ ih =>
   intro us hr;cases hr with
   | cons h1 t =>
     refine .cons ?_ (ih t);cases h1 with
     | @msl _ _ _ g cap hn hid =>
       obtain⟨vs,ext,T,hw,hv⟩:=Sn hs hid h;have hg:=List.mem_of_getElem? hid
       have Nr:∀g i v,PE c w g i v->PE (c.upto 0 0) w g i v:=λg i v hv=>⟨hv.1,λKQ=>by
         rcases KQ with KQ | ⟨r,n',cap',PF,hr,_⟩ | KQ
         simp[Cx.upto] at KQ;simp[Cx.upto] at hr;exact hv.2.1 (.inr (.inr KQ)),hv.2.2⟩
       refine .M4 hn (Bk.QK (CT.plain Nr hp hv) (λi v hi=>?_)) trivial;rw[Nat.zero_add];refine⟨hs.OQ g hg,λKQ=>?_,cell_of_heap hw (WS hi)⟩;rcases KQ with KQ | ⟨r,n',cap',PF,hr,_⟩ | KQ
       simp[Cx.upto] at KQ;simp[Cx.upto] at hr;exact hb g hg i KQ
 | g _ _ oG ih2=>intro us hr;cases hr with | cons h1 t=>cases h1 with | agg h2=>exact .cons (.agg (oG h2)) (ih2 t)
 | u _ _ oG ih2=>intro us hr;cases hr with | cons h1 t=>cases h1 with | CZ h2=>exact .cons (.CZ (oG h2)) (ih2 t)
def arM.of{s:AS}{a v:AV}(h:Fz s [a] [v]):arM G s a v:=λc w u hs hb hr=>by
 have:=h.ok hs hb (.cons hr .nil);cases this with
 | cons h1 _=>exact h1
end
end AI
namespace AI
open Go
end AI
namespace AI
open Go Go.RowKit
end AI
namespace AI
open Go Go.RowKit
abbrev EW:=Cx->World->Prop
abbrev QE:=AX->List AV->AS->EW->Prop
def EOk(e:AX)(fr:List AV)(c:Cx)(w:World)(e':Exit)(a:Act):Prop:=match e with
 | .normal=>e'=.normal/\CT c w fr a.tmps.toList
 | .exit id=>e'=.exit id/\CT c w fr a.tmps.toList
 | .ret=>e'=.ret/\CT c w fr a.tmps.toList
 | .pan v=>∃u,e'=.panic [{ v:=u,recovered:=false }]/\Rp c w v u
def EPost(G:Bc)(Q:QE)(K:Exit->Act->World->Prop):Prop:=∀e fr s E,Q e fr s E->∀(cx:Cx) (w:World) (a:Act) (e':Exit),E cx w->St G cx w s->a.defers=[]->EOk e fr cx w e' a->K e' a w
def WE(P:Program)(G:Bc)(E:EW)(c:Code)(fr:List AV)(s:AS)(Q:QE):Prop:=∀(cx:Cx) (w:World) (a:Act) (K:Exit->Act->World->Prop),E cx w->St G cx w s->CT cx w fr a.tmps.toList->a.defers=[]->EPost G Q K->c.wp P K a w
def Ud(P:Program)(G:Bc)(E:EW)(ops:Array Oper)(l:List Nat)(fr:List AV)(s:AS)(Q:QE):Prop:=∀(cx:Cx) (w:World) (a:Act) (K:Exit->Act->World->Prop),E cx w->St G cx w s->CT cx w fr a.tmps.toList->a.defers=[]->EPost G Q K->wpOps P ops K l a w
def VW(E:EW):Prop:=∀(cx:Cx) (w:World) (Rt:Cx) (w':World),E cx w->Ext cx w Rt w'->E Rt w'
def EOk.PZ{e:AX}{fr:List AV}{c:Cx}{w:World}{e':Exit}{a:Act}(h:EOk e fr c w e' a)(he:e≠.normal):e'≠.normal:=by
 cases e with
 | normal=>exact absurd rfl he
 | exit id=>intro h5;rw[h.1] at h5;cases h5
 | ret=>intro h5;rw[h.1] at h5;cases h5
 | pan v=>obtain⟨u,h5,_⟩:=h;intro h6;rw[h5] at h6;cases h6
section
variable {P:Program} {G:Bc} {E:EW} {fr:List AV} {s:AS} {Q:QE}
def WE.of(hm:P.follows .mixedOrders=true)(hk:VW E){c:Code}{Q0:AX->List AV->AS->Prop}(h:W P G (XS P G) H0 c fr s Q0)(hQ:∀e fr' s',Q0 e fr' s'->Q e fr' s' E):WE P G E c fr s Q:=by
 obtain⟨e,fr',s',hj,hq⟩:=h;have hS:=sound (Tv hm) hj;intro cx w a K hE hs hf hd hK;refine hS cx w a K hs hf hd ?_;rintro e' a' w' ⟨c',hx,hs',Sy,h4⟩;refine hK e fr' s' E (hQ _ _ _ hq) c' w' a' e' (hk _ _ _ _ hE hx) hs' Sy ?_;cases e<;>exact h4
def WE.seq{x y:Code}(h:WE P G E x fr s (λe fr' s' E'=>(e=.normal/\WE P G E' y fr' s' Q)\/(e≠.normal/\Q e fr' s' E'))):WE P G E (.seq x y) fr s Q:=by
 intro cx w a K hE hs hf hd hK;refine wp_seq (h cx w a _ hE hs hf hd ?_);rintro e fr' s' E' hq Rt w' a' e' nM hs' Sy W1;rcases hq with ⟨rfl,h2⟩ | ⟨hne,hq⟩
 obtain⟨rfl,Yc⟩:=W1;exact h2 Rt w' a' K nM hs' Yc Sy hK;exact UY (W1.PZ hne) (hK _ _ _ _ hq _ _ _ _ nM hs' Sy W1)
def WE.cond{q:Operand}{x y:Code}{t:Bool}(hq:Bg G fr q=some (.sc (.bool t)))(h:WE P G E (if t then x else y) fr s Q):WE P G E (.cond q x y) fr s Q:=by
 intro cx w a K hE hs hf hd hK;have hr:=Gf hs hf hq
 have IY:a.eval q=.bool t:=by
   generalize a.eval q=v at hr;cases hr;rfl
 exact wp_cond IY (h cx w a K hE hs hf hd hK)
def WE.skip(h:Q .normal fr s E):WE P G E .skip fr s Q:=λcx w a K hE hs hf hd hK=>wp_skip (hK _ _ _ _ h cx w a _ hE hs hd ⟨rfl,hf⟩)
def WE.exit{id:Nat}(h:Q (.exit id) fr s E):WE P G E (.exit id) fr s Q:=λcx w a K hE hs hf hd hK=>wp_exit (hK _ _ _ _ h cx w a _ hE hs hd ⟨rfl,hf⟩)
def WE.block{id:Nat}{c:Code}(h:WE P G E c fr s (λe fr' s' E'=>Q (E5 id e) fr' s' E')):WE P G E (.block id c) fr s Q:=by
 intro cx w a K hE hs hf hd hK;refine wp_block (h cx w a _ hE hs hf hd ?_);rintro e fr' s' E' hq Rt w' a' e' nM hs' Sy h4;cases e with
 | normal=>obtain⟨rfl,h5⟩:=h4;exact hK _ _ _ _ hq Rt w' a' _ nM hs' Sy ⟨rfl,h5⟩
 | exit Re =>
   obtain⟨rfl,h5⟩:=h4;show if Re=id then K .normal a' w' else K (.exit Re) a' w'
   by_cases hid:Re=id;rw[if_pos hid];refine hK _ _ _ _ hq Rt w' a' _ nM hs' Sy ?_;simp only[E5,hid,if_true];exact⟨rfl,h5⟩;rw[if_neg hid];refine hK _ _ _ _ hq Rt w' a' _ nM hs' Sy ?_;simp only[E5,hid,if_false];exact⟨rfl,h5⟩
 | ret=>obtain⟨rfl,h5⟩:=h4;exact hK _ _ _ _ hq Rt w' a' _ nM hs' Sy ⟨rfl,h5⟩
 | pan v=>obtain⟨u,rfl,h5⟩:=h4;exact hK _ _ _ _ hq Rt w' a' _ nM hs' Sy ⟨u,rfl,h5⟩
def WE.loop{L:Code}(I:Nat->List AV->AS->EW->Prop)(h:∀m fr s E,I m fr s E->WE P G E L fr s (λe fr' s' E'=>(e=.normal/\∃m',m' < m/\I m' fr' s' E')\/(e≠.normal/\Q e fr' s' E'))){m:Nat}(hi:I m fr s E):WE P G E (.loop L) fr s Q:=by
 have key:∀(n m:Nat) (fr:List AV) (s:AS) (E:EW),m < n->I m fr s E->∀(cx:Cx) (w:World) (a:Act) (K:Exit->Act->World->Prop),E cx w->St G cx w s->CT cx w fr a.tmps.toList->a.defers=[]->EPost G Q K->Code.rounds P L K n a w:=by
   intro n
   induction n with
   | zero=>intro m fr s E hm;omega
   | succ n ih =>
     intro m fr s E hm hi cx w a K hE hs hf hd hK;rw[rounds_succ];refine h m fr s E hi cx w a _ hE hs hf hd ?_;rintro e fr' s' E' hq Rt w' a' e' nM hs' Sy W1;rcases hq with ⟨rfl,m',hm',Nq⟩ | ⟨hne,hq⟩
     obtain⟨rfl,Yc⟩:=W1;exact ih m' fr' s' E' (by omega) Nq Rt w' a' K nM hs' Yc Sy hK;exact UY (W1.PZ hne) (hK _ _ _ _ hq _ _ _ _ nM hs' Sy W1)
 intro cx w a K hE hs hf hd hK;exact wp_loop_rounds (m+1) (key (m+1) m fr s E (Nat.lt_succ_self m) hi cx w a K hE hs hf hd hK)
def WE.region{id:Nat}{ops:Array Oper}(h:Ud P G E ops (List.range ops.size) fr s Q):WE P G E (.region id ops false) fr s Q:=λcx w a K hE hs hf hd hK=>wp_region (h cx w a K hE hs hf hd hK)
def Ud.nil{ops:Array Oper}(h:Q .normal fr s E):Ud P G E ops [] fr s Q:=λcx w a K hE hs hf hd hK=>hK _ _ _ _ h cx w a .normal hE hs hd ⟨rfl,hf⟩
def Ud.op(hm:P.follows .mixedOrders=true)(hk:VW E){ops:Array Oper}{i:Nat}{l:List Nat}{o:Oper}(v:AV){s1:AS}(ho:ops[i]?=some o)(hj:J P G (XS P G) H0 (.op ops o fr s (.ret v) s1))(t:Ud P G E ops l (Jw fr o.dst v) s1 Q):Ud P G E ops (i::l) fr s Q:=by
 intro cx w a K hE hs hf hd hK;refine Ql ho (sound (Tv hm) hj cx w a _ _ hs (λx _=>dW hs hf x) (NO (c:=cx) (w:=w) (λ_ _ _ _ _=>⟨fr,hf,rfl⟩)) ?_);intro u w' c' hx hs' hu;exact t c' w' (a.put o.dst u) K (hk _ _ _ _ hE hx) hs' (Sk (hf.mono hx) hu) (by cases o.dst<;>exact hd) hK
def Ud.sem{E':EW}{ops:Array Oper}{i:Nat}{l:List Nat}{o:Oper}{fr2:List AV}(v:AV){s2:AS}(ho:ops[i]?=some o)(hg:o.guard=none)
   (h:∀(cx:Cx) (w:World) (a:Act),E cx w->St G cx w s->CT cx w fr a.tmps.toList->∃u w' Rt,(execOp a.eval o).run P w=.ok (.value u) w'/\E' Rt w'/\St G Rt w' s2/\CT Rt w' fr2 a.tmps.toList/\Rp Rt w' v u)
   (t:Ud P G E' ops l (Jw fr2 o.dst v) s2 Q):Ud P G E ops (i::l) fr s Q:=by
 intro cx w a K hE hs hf hd hK;refine Ql ho ?_;obtain⟨u,w',Rt,hr,nM,hs',Yc,hu⟩:=h cx w a hE hs hf;unfold OD;have hw:Region.wanted o (yielded ops a.tmps)=true:=by unfold Region.wanted;rw[hg]
 rw[hw];simp only[if_true];unfold Oper.wp;rw[hr];exact t Rt w' (a.put o.dst u) K nM hs' (Sk Yc hu) (by cases o.dst<;>exact hd) hK
end
def aGQ(b:Nat)(B:Nat->Nat->Prop)(w0:World)(E:EW):Prop:=∀(c:Cx) (w:World),E c w->c.base=b/\Below b w0 w/\(∀g i,B g i->c.bad g i)/\∀g i,some g∈c.Dy->c.bad g i->g < b
def E0(b:Nat)(B:Nat->Nat->Prop)(w0:World):EW:=λc w=>c.base=b/\c.bad=B/\Below b w0 w
def E0.UF{b:Nat}{B:Nat->Nat->Prop}{w0:World}:VW (E0 b B w0):=λcx w Rt w' h hx=>⟨hx.base.trans h.1,hx.bad.trans h.2.1,h.2.2.trans (by have:=hx.below;rw[h.1] at this;exact this)⟩
end AI
namespace AI
open Go Go.RowKit
def IK:Code->Array Oper
 | .region _ ops _=>ops
 | _=>#[]
def eE:Code->Nat->Bool
 | .region _ ops d,n=>(match d with
   | false=>Nat.beq ops.size n
   | true=>false)
 | _,_=>false
def aLS:Oper:={ dst:=none,op:=.move (.tmp 0),type:=0,pos:="",after:=#[],guard:=none }
def opAt(c:Code)(i:Nat):Oper:=((IK c)[i]?).getD aLS
def anW{c:Code}{n:Nat}(h:eE c n=true):(∃id,c=.region id (IK c) false)/\(IK c).size=n:=by
 unfold eE at h;split at h;rename_i id ops d;split at h;exact⟨⟨id,rfl⟩,Nat.eq_of_beq_eq_true h⟩;cases h;cases h
def P1{c:Code}{n i:Nat}(h:eE c n=true)(hi:i < n):(IK c)[i]?=some (opAt c i):=by
 have:=(anW h).2;unfold opAt;rw[Array.getElem?_eq_getElem (by omega)];rfl
def sH(o:Oper):Option (Operand×TypeId):=match o.guard with
 | none=>(match o.op with
   | .call cl=>(match cl.callee with
     | .builtin .len=>(match cl.args.toList with
       | [x]=>(match cl.argTypes.toList with
         | [t]=>some (x,t)
         | _=>none)
       | _=>none)
     | _=>none)
   | _=>none)
 | some _=>none
def fZ(o:Oper):Option (Operand×Operand×TypeId×TypeId):=match o.guard with
 | none=>(match o.op with
   | .call cl=>(match cl.callee with
     | .builtin .append=>(match cl.args.toList with
       | [x,y]=>(match cl.argTypes.toList with
         | [t,tx]=>some (x,y,t,tx)
         | _=>none)
       | _=>none)
     | _=>none)
   | _=>none)
 | some _=>none
def akO(o:Oper):Option (TypeId×Operand):=match o.guard with
 | none=>(match o.op with
   | .buildSlice t n ps=>(match n with
     | 1=>(match ps.toList with
       | [(0,x)]=>some (t,x)
       | _=>none)
     | _=>none)
   | _=>none)
 | some _=>none
section
variable {P:Program} {w:World} {ρ:Operand->Value} {o:Oper}
def wE{x:Operand}{t e:TypeId}{A:Option Addr}{n cap:Nat}(h:sH o=some (x,t))(hu:P.underlying t=some (.slice e))(ha:ρ x=.slice A n cap):o.guard=none/\(execOp ρ o).run P w=.ok (.value (.int .i64 n)) w:=by
 unfold sH at h;split at h;rename_i hg;refine⟨hg,?_⟩;split at h;rename_i cl ho;split at h;rename_i Iy;split at h;rename_i x' hx;split at h;rename_i t' ht;cases h;have e1:cl.args=#[x]:=by apply Array.ext';rw[hx]
 have e2:cl.argTypes=#[t]:=by apply Array.ext';rw[ht]
 simp[execOp,ho,resolve,Iy,e1,e2,invoke,builtin,ha,Builtin.len_,run_underlying hu,goInt];cases h;cases h;cases h;cases h;cases h
def ZN{x y:Operand}{t tx:TypeId}{u:Value}{w':World}(h:fZ o=some (x,y,t,tx))(hr:∀ty,(Builtin.append_ #[t,tx] ty #[ρ x,ρ y]).run P w=.ok u w'):o.guard=none/\(execOp ρ o).run P w=.ok (.value u) w':=by
 unfold fZ at h;split at h;rename_i hg;refine⟨hg,?_⟩;split at h;rename_i cl ho;split at h;rename_i Iy;split at h;rename_i x' y' hx;split at h;rename_i t' tx' ht;cases h;have e1:cl.args=#[x,y]:=by apply Array.ext';rw[hx]
 have e2:cl.argTypes=#[t,tx]:=by apply Array.ext';rw[ht]
 simp[execOp,ho,resolve,Iy,e1,e2,invoke,builtin,hr];cases h;cases h;cases h;cases h;cases h
def gA{q:Operand×Operand×TypeId×TypeId}(h:fZ o=some q):o.guard=none:=by
 unfold fZ at h;split at h;rename_i hg;exact hg;cases h
def aaH{x:Operand}{t e:TypeId}{i:TypeInfo}{z:Value}(h:akO o=some (t,x))(hu:P.underlying t=some (.slice e))(hi:P.info? e=some i)(hs:i.size=1)(hz:i.zero=some z)(zA:z.cells.size=1)(hv:(ρ x).cells=#[ρ x]):o.guard=none/\(execOp ρ o).run P w=.ok (.value (.slice (some ⟨w.heap.size,0,none⟩) 1 1)) { w with heap:=w.heap.push (.cells #[ρ x] e) }:=by
 unfold akO at h;split at h;rename_i hg;refine⟨hg,?_⟩;split at h;rename_i t' n ps ho;split at h;split at h;rename_i x' rR;cases h;have e1:ps=#[(0,x)]:=by apply Array.ext';rw[rR]
 have hf:∀B:Array Value,B.size=1->Instr.fill (λi=>some (i,1)) B [(0,ρ x)]=some #[ρ x]:=by
   intro B hB;obtain⟨b,rfl⟩:=Array.size_eq_one_iff.1 hB;simp[Instr.fill,hv]
 have h2:=hf ((Array.range 1).map (z.cells[· % z.cells.size]!)) (by simp);simp only[execOp,ho,e1,Instr.buildSlice,Sem.run_bind,run_underlying hu,Result.andThen_ok,C6 hi,hs,Sem.run_ite,zeroValue,typeInfo,run_program,hi,hz,Sem.run_pure,List.map_toArray,List.map_cons,List.map_nil,Nat.mul_one,Nat.one_ne_zero,if_false,gt_iff_lt,show ¬(2 ^ 24 < 1) from by decide,newRow];rw[h2];simp;cases h;cases h;cases h;cases h
end
end AI
namespace AI
open Go Go.RowKit
def jQ(ps:List (Nat×Nat)):List AV:=ps.map λp=>.ptr p.1 p.2
def wV(ps:List (Nat×Nat)):(jQ ps).length=ps.length:=by simp[jQ]
def bP(b:Nat)(B:Nat->Nat->Prop)(w0:World)(g cap:Nat)(ps:List (Nat×Nat)):EW:=λc w =>
 c.base=b/\Below b w0 w/\(∀g' i,c.bad g' i↔(B g' i\/g'=g))/\b<=g/\some g∉c.Dy/\(∀(r:Nat) n cap' sz,c.rows[r]?≠some (.RC g n cap' sz)) /\
 ∃(vs ext:List Value) (T:TypeId),w.heap[g]?=some (.cells (vs++ext).toArray T (0,0))/\vs.length+ext.length=cap/\CT c w (jQ ps) vs
def bP.UF{b:Nat}{B:Nat->Nat->Prop}{w0:World}{g cap:Nat}{ps:List (Nat×Nat)}:VW (bP b B w0 g cap ps):=by
 rintro cx w Rt w' ⟨h1,h2,h3,h4,h5,h6,vs,ext,T,h7,h8,h9⟩ hx;have hg:g < w.heap.size:=(Array.getElem?_eq_some_iff.1 h7).1;refine⟨hx.base.trans h1,h2.trans (by have:=hx.below;rwa[h1] at this),λg' i=>by rw[hx.bad];exact h3 g' i,h4,λhm=>?_,λr n cap' sz hr=>?_,vs,ext,T,by rw[hx.UF g hg h5 h6];exact h7,h8,h9.mono hx⟩;rcases hx.jP g hm with h | h
 exact h5 h;omega;rcases hx.kB r g n cap' sz hr with ⟨r0,n0,RV,kT,h⟩ | h
 exact h6 _ _ _ _ h;omega
def bP.fin{b:Nat}{B:Nat->Nat->Prop}{w0:World}{g cap:Nat}{ps:List (Nat×Nat)}(hB:∀g i,B g i->g < b):aGQ b B w0 (bP b B w0 g cap ps):=by
 rintro c w ⟨h1,h2,h3,h4,h5,_⟩;refine⟨h1,h2,λg' i hb=>(h3 g' i).2 (.inl hb),λg' i hg hb=>?_⟩;rcases(h3 g' i).1 hb with h | rfl
 exact hB g' i h;exact absurd hg h5
def St.move{G:Bc}{c c':Cx}{w w':World}{s:AS}(h:St G c w s)(hm:Mon c w c' w')(Ty:c'.Dy=c.Dy)(rV:c'.rows=c.rows)(acV:c'.base=c.base)
   (asK:∀k,k < w.heap.size->(some k∈c.Dy\/∃(r:Nat) (n cap sz:Nat),c.rows[r]?=some (.RC k n cap sz))->w'.heap[k]?=w.heap[k]?) (asQ:w.heap.size<=w'.heap.size)
   (Np:∀g i,c'.bad g i->(c.bad g i\/w.heap.size<=g)/\g < w'.heap.size):St G c' w' s:=by
 refine⟨by rw[Ty];exact h.len,h.desc,by rw[Ty];exact h.nodup,by rw[Ty,acV];exact h.low,λid g b h1 h2=>?_,by rw[rV];exact h.JU,λr g n cap sz hr=>?_,by rw[rV];exact h.Kn,λg hg=>Nat.lt_of_lt_of_le (h.OQ g (by rwa[Ty] at hg)) asQ,λg i hb=>(Np g i hb).2,by rw[rV];exact h.JR,λg cs hg=>(h.Ph g cs hg).DB hm,by rw[acV];exact Nat.le_trans h.RS asQ⟩;rw[Ty] at h1;obtain⟨o,ho,hb⟩:=h.box id g b h1 h2;exact⟨o,by rw[asK g (Array.getElem?_eq_some_iff.1 ho).1 (.inl (List.mem_of_getElem? h1))];exact ho,hb.DB hm⟩;rw[rV] at hr;obtain⟨a1,a2,a3,a4,vs,T,a5,a6⟩:=h.row r g n cap sz hr;have hlt:=h.QT hr;refine⟨λi hb=>?_,by rw[acV];exact a2,by rw[Ty];exact a3,a4,vs,T,by rw[asK g hlt (.inr ⟨r,n,cap,sz,hr⟩)];exact a5,a6⟩;rcases(Np g i hb).1 with h1 | h1
 exact a1 i h1;omega
section
variable {P:Program} {G:Bc} {E:EW} {fr:List AV} {s:AS} {Q:QE}
def Ud.aDZ{ι:Type}{E':ι->EW}{ops:Array Oper}{i:Nat}{l:List Nat}{o:Oper}{fr2:List AV}(v:ι->AV){s2:AS}(ho:ops[i]?=some o)(hg:o.guard=none)
   (h:∀(cx:Cx) (w:World) (a:Act),E cx w->St G cx w s->CT cx w fr a.tmps.toList->∃x u w' Rt,(execOp a.eval o).run P w=.ok (.value u) w'/\E' x Rt w'/\St G Rt w' s2/\CT Rt w' fr2 a.tmps.toList/\Rp Rt w' (v x) u)
   (t:∀x,Ud P G (E' x) ops l (Jw fr2 o.dst (v x)) s2 Q):Ud P G E ops (i::l) fr s Q:=by
 intro cx w a K hE hs hf hd hK;refine Ql ho ?_;obtain⟨x,u,w',Rt,hr,nM,hs',Yc,hu⟩:=h cx w a hE hs hf;unfold OD;have hw:Region.wanted o (yielded ops a.tmps)=true:=by unfold Region.wanted;rw[hg]
 rw[hw];simp only[if_true];unfold Oper.wp;rw[hr];exact t x Rt w' (a.put o.dst u) K nM hs' (Sk Yc hu) (by cases o.dst<;>exact hd) hK
variable {c:Code} {n i:Nat} {l:List Nat}
def Ud.len{x:Operand}{t e:TypeId}{A:Option Addr}{k cap:Nat}(hr:eE c n=true)(hi:i < n)(h:sH (opAt c i)=some (x,t))(hu:P.underlying t=some (.slice e))(ha:Bg G fr x=some (.raw A k cap))
   (j:Ud P G E (IK c) l (Jw fr (opAt c i).dst (.sc (.int .i64 k))) s Q):Ud P G E (IK c) (i::l) fr s Q:=by
 have hgd:(opAt c i).guard=none:=by
   unfold sH at h;split at h;rename_i hg;exact hg;cases h
 refine .sem (.sc (.int .i64 k)) (P1 hr hi) hgd (λcx w a hE hs hf=>?_) j;have hv:=Gf hs hf ha;generalize hq:a.eval x=v at hv;cases hv;exact⟨_,w,cx,(wE h hu hq).2,hE,hs,hf,.sc rfl⟩
variable {b g cap:Nat} {B:Nat->Nat->Prop} {w0:World} {ps:List (Nat×Nat)} {p:Nat×Nat}
def Ud.push{t tx e e2 id off:TypeId}{x y:Operand}(hr:eE c n=true)(hi:i < n)(h:fZ (opAt c i)=some (x,y,t,tx))(hu:P.underlying t=some (.slice e))(hux:P.underlying tx=some (.slice e2))
   (he:(P.info? e).map (λi=>(i.size,decide (i.bytes<=10000),i.zero.map (·.cells.size)))=some (1,true,some 1)) (ha:Bg G fr x=some (.raw (some ⟨g,0,none⟩) ps.length cap)) (hy:Bg G fr y=some (.sl .full 1 [.ptr id off])) (hlen:ps.length+1<=100000000)
   (j:∀g' cap',Ud P G (bP b B w0 g' cap' (ps++[(id,off)])) (IK c) l (Jw fr (opAt c i).dst (.raw (some ⟨g',0,none⟩) (ps++[(id,off)]).length cap')) s Q):Ud P G (bP b B w0 g cap ps) (IK c) (i::l) fr s Q:=by
 cases hie:P.info? e with
 | none=>rw[hie] at he;cases he
 | some ie =>
 rw[hie] at he;simp only[Option.map_some,Option.some.injEq,Prod.mk.injEq,decide_eq_true_eq] at he;obtain⟨hsz,hby,hzz⟩:=he;obtain⟨z,hz,zA⟩:=Option.map_eq_some_iff.1 hzz;refine .aDZ (ι:=Nat×Nat) (E':=λq=>bP b B w0 q.1 q.2 (ps++[(id,off)])) (λq=>.raw (some ⟨q.1,0,none⟩) (ps++[(id,off)]).length q.2) (P1 hr hi) (gA h) (λcx w a hE hs hf=>?_) (λq=>j q.1 q.2);have hva:=Gf hs hf ha;have hvy:=Gf hs hf hy;generalize hqa:a.eval x=va at hva;generalize hqy:a.eval y=vy at hvy;cases hva;obtain⟨h1,h2,h3,h4,h5,h6,vs,ext,T,h7,h8,h9⟩:=hE;have hg:g < w.heap.size:=(Array.getElem?_eq_some_iff.1 h7).1;have hl:=h9.len;rw[wV] at hl;obtain⟨news,hnr,hnl,hsi⟩:=qN (P:=P) (s:=s) (size:=ie.size) (tx:=tx) (n:=1) (cs:=[.ptr id off]) hs (by unfold gG;rw[hux,hsz];rfl) hvy;rw[hsz,Nat.mul_one] at hnl;have aKL:∀g' i v,PE cx w g' i v->g'≠g:=λg' i v hv e=>hv.2.1 (.inr (.inr ((h3 g' i).2 (.inr e))))
 have asM:∀{Rt:Cx} {w':World},Mon cx w Rt w'->CT Rt w' (jQ (ps++[(id,off)])) (vs++news):=λhm=>by
   unfold jQ at h9 ⊢;rw[List.map_append];exact(h9.DB hm).append (hnr.DB hm)
 by_cases UB:ps.length+1<=cap;have alX:ps.length+news.length<=(vs++ext).toArray.size:=by rw[hnl,List.size_toArray,List.length_append];omega
 have Gt:=run_storeCells_at P g ps.length T news 0 (vs++ext).toArray w h7 (by simpa using alX) (W8 hnr rfl)
 simp only[Nat.add_zero] at Gt;have Tx:=setRow_heap w g (vs++ext).toArray ((vs++ext).toArray.toList.take ps.length++news++(vs++ext).toArray.toList.drop (ps.length+news.length)).toArray T (0,0) h7;have hc:=Hx w g ((vs++ext).toArray.toList.take ps.length++news++(vs++ext).toArray.toList.drop (ps.length+news.length)).toArray
 have avX:((vs++ext).toArray.toList.take ps.length++news++(vs++ext).toArray.toList.drop (ps.length+news.length))=(vs++news)++ext.drop 1:=by
   simp only[List.toList_toArray];rw[List.take_left' hl,hnl,List.drop_append];rw[List.drop_eq_nil_of_le (by omega),List.nil_append,show ps.length+1 - vs.length=1 by omega]
 rw[avX] at Tx Gt hc;have hm:Mon cx w cx (w.setRow g ((vs++news)++ext.drop 1).toArray):=⟨λ_ _ h=>h,Nat.le_refl _,λr y _ h=>⟨y,h,Ld.refl y⟩,λg' i v hv=>⟨Nat.lt_of_lt_of_le hv.1 hc.size,hv.2.1,by rw[hc.cell hv.1 (aKL g' i v hv)];exact hv.2.2⟩⟩
 refine⟨(g,cap),_,_,cx,(ZN h (λty=>by
   rw[hqa,hqy];exact QV (ty:=ty) hu hie hsi UB (w':=w.setRow g ((vs++news)++ext.drop 1).toArray) (λa ha=>by cases ha;rw[add_lit,Nat.zero_add,hsz,Nat.mul_one];exact Gt) (λh=>by cases h))).2,⟨h1,h2.trans (hc.below (by rw[<- h1];exact hs.RS) (λk hk=>by rw[hk];exact h4)),h3,h4,h5,h6,vs++news,ext.drop 1,T,Tx,?_,asM hm⟩,hs.move hm rfl rfl rfl (λk hk hor=>hc.block k hk (λe=>?_)) hc.size (λg' i hb=>⟨.inl hb,Nat.lt_of_lt_of_le (hs.OH g' i hb) hc.size⟩),hf.DB hm,?_⟩
 rw[List.length_append,List.length_drop];omega;subst e;rcases hor with h | ⟨r,n',cap',sz,h⟩
 exact h5 h;exact h6 _ _ _ _ h;rw[List.length_append];exact .raw
 have hfc:(Builtin.firstCells ie.size ps.length (.slice (some ⟨g,0,none⟩) ps.length cap)).run P { w with drawn:=w.drawn+1 }=.ok vs.toArray { w with drawn:=w.drawn+1 }:=by
   rw[hsz];refine run_firstCells_some { w with drawn:=w.drawn+1 } 1 ps.length ⟨g,0,none⟩ ps.length cap vs (by omega) (λj v hj=>?_)
   rw[add_lit,Nat.zero_add];exact cell_of_heap h7 (WS hj)
 have avW:(ps.length+1)*ie.bytes<=140737488355328:=Nat.le_trans (Nat.mul_le_mul hlen hby) (by decide)
 have hex:∃cap',ps.length+1<=cap'/\∀ty,(Builtin.append_ #[t,tx] ty #[.slice (some ⟨g,0,none⟩) ps.length cap,vy]).run P w=.ok (.slice (some ⟨w.heap.size,0,none⟩) (ps.length+1) cap') { w with drawn:=w.drawn+1,heap:=w.heap.push (.cells ((vs++news).toArray++Builtin.zeroCells z.cells (cap' - (ps.length+1))) e) }:=by
   obtain⟨cap',hc',UC⟩:=UQ (ty:=0) hu hie hz hsi hfc (by omega) (by omega) avW;exact⟨cap',hc',λty=>UC⟩
 obtain⟨cap',rL,UC⟩:=hex;have hzc:(Builtin.zeroCells z.cells (cap' - (ps.length+1))).size=cap' - (ps.length+1):=by rw[size_zeroCells,zA,Nat.mul_one]
 let w':World:={ w with drawn:=w.drawn+1,heap:=w.heap.push (.cells ((vs++news).toArray++Builtin.zeroCells z.cells (cap' - (ps.length+1))) e) }
 have hk:Si w w' (λ_=>False):=⟨rfl,rfl,rfl,by simp[w'],λk hk _=>by simp[w',Array.getElem?_push];intro h;omega⟩
 have Tx:w'.heap[w.heap.size]?=some (.cells ((vs++news)++(Builtin.zeroCells z.cells (cap' - (ps.length+1))).toList).toArray e (0,0)):=by
   have:w'.heap[w.heap.size]?=some (.cells ((vs++news).toArray++Builtin.zeroCells z.cells (cap' - (ps.length+1))) e (0,0)):=by simp[w']
   rw[this];congr 2;apply Array.ext';simp
 let Rt:Cx:={ cx with bad:=λg' i=>B g' i\/g'=w.heap.size }
 have hBs:∀g' i,B g' i->g' < w.heap.size:=λg' i hb=>hs.OH g' i ((h3 g' i).2 (.inl hb));have hm:Mon cx w Rt w':=⟨λ_ _ h=>h,Nat.le_refl _,λr y _ h=>⟨y,h,Ld.refl y⟩,λg' i v hv=>⟨Nat.lt_of_lt_of_le hv.1 hk.size,λKQ=>?_,by rw[hk.cell hv.1 not_false];exact hv.2.2⟩⟩;have aKO:w'.heap.size=w.heap.size+1:=by simp[w']
 refine⟨(w.heap.size,cap'),_,w',Rt,(ZN h (λty=>by rw[hqa,hqy];exact UC ty)).2,⟨h1,h2.trans (hk.below (by rw[<- h1];exact hs.RS) (λ_ h=>h.elim)),λ_ _=>Iff.rfl,by rw[<- h1];exact hs.RS,λhm'=>?_,λr n' c' sz Zo=>?_,vs++news,_,e,Tx,?_,asM hm⟩,hs.move hm rfl rfl rfl (λk yX _=>hk.block k yX not_false) hk.size (λg' i hb=>?_),hf.DB hm,?_⟩;have:=hs.OQ _ hm';omega;have:=hs.QT Zo;omega;have hz3:(Builtin.zeroCells z.cells (cap' - (ps.length+1))).toList.length=cap' - (ps.length+1):=by rw[Array.length_toList,hzc]
 show(vs++news).length+_=cap';rw[hz3,List.length_append];omega;rcases hb with hb | rfl
 exact⟨.inl ((h3 g' i).2 (.inl hb)),by have:=hBs g' i hb;omega⟩;exact⟨.inr (Nat.le_refl _),by omega⟩;rw[List.length_append];exact .raw;rcases KQ with KQ | KQ | KQ
 exact hv.2.1 (.inl KQ);exact hv.2.1 (.inr (.inl KQ));rcases KQ with KQ | KQ
 exact hv.2.1 (.inr (.inr ((h3 g' i).2 (.inl KQ))));have:=hv.1;omega
def Ud.begin{t e id off:TypeId}{x:Operand}(hr:eE c n=true)(hi:i < n)(h:akO (opAt c i)=some (t,x))(hu:P.underlying t=some (.slice e))(he:(P.info? e).map (λi=>(i.size,i.zero.map (·.cells.size)))=some (1,some 1))(ha:Bg G fr x=some (.ptr id off))
   (j:∀g',Ud P G (bP b B w0 g' 1 [(id,off)]) (IK c) l (Jw fr (opAt c i).dst (.raw (some ⟨g',0,none⟩) 1 1)) s Q):Ud P G (E0 b B w0) (IK c) (i::l) fr s Q:=by
 cases hie:P.info? e with
 | none=>rw[hie] at he;cases he
 | some ie =>
 rw[hie] at he;simp only[Option.map_some,Option.some.injEq,Prod.mk.injEq] at he;obtain⟨hsz,hzz⟩:=he;obtain⟨z,hz,zA⟩:=Option.map_eq_some_iff.1 hzz
 have hgd:(opAt c i).guard=none:=by
   unfold akO at h;split at h;rename_i hg;exact hg;cases h
 refine .aDZ (ι:=Nat) (E':=λq=>bP b B w0 q 1 [(id,off)]) (λq=>.raw (some ⟨q,0,none⟩) 1 1) (P1 hr hi) hgd (λcx w a hE hs hf=>?_) j;have hva:=Gf hs hf ha;generalize hqa:a.eval x=va at hva;obtain⟨h1,h2,h3⟩:=hE;have UC:=(aaH (P:=P) (w:=w) (ρ:=a.eval) h hu hie hsz hz zA (by rw[hqa];cases hva;rfl)).2;rw[hqa] at UC;let w':World:={ w with heap:=w.heap.push (.cells #[va] e) }
 have hk:Si w w' (λ_=>False):=NP w _;let Rt:Cx:={ cx with bad:=λg' i=>B g' i\/g'=w.heap.size }
 have hBs:∀g' i,B g' i->g' < w.heap.size:=λg' i hb=>hs.OH g' i (by rw[h2];exact hb);have aKO:w'.heap.size=w.heap.size+1:=by simp[w']
 have hm:Mon cx w Rt w':=⟨λ_ _ h=>h,Nat.le_refl _,λr y _ h=>⟨y,h,Ld.refl y⟩,λg' i v hv=>⟨Nat.lt_of_lt_of_le hv.1 hk.size,λKQ=>by
   rcases KQ with KQ | KQ | KQ
   exact hv.2.1 (.inl KQ);exact hv.2.1 (.inr (.inl KQ));rcases KQ with KQ | KQ
   exact hv.2.1 (.inr (.inr (by rw[h2];exact KQ)));have:=hv.1;omega,by rw[hk.cell hv.1 not_false];exact hv.2.2⟩⟩
 refine⟨w.heap.size,_,w',Rt,UC,⟨h1,h3.trans (hk.below (by rw[<- h1];exact hs.RS) (λ_ h=>h.elim)),λ_ _=>Iff.rfl,by rw[<- h1];exact hs.RS,λhm'=>?_,λr n' c' sz Zo=>?_,[va],[],e,by simp[w'],rfl,.cons (hva.DB hm) .nil⟩,hs.move hm rfl rfl rfl (λk yX _=>hk.block k yX not_false) hk.size (λg' i hb=>?_),hf.DB hm,.raw⟩;have:=hs.OQ _ hm';omega;have:=hs.QT Zo;omega;rcases hb with hb | rfl
 exact⟨.inl (by rw[h2];exact hb),by have:=hBs g' i hb;omega⟩;exact⟨.inr (Nat.le_refl _),by omega⟩
def WE.run(hm:P.follows .mixedOrders=true)(hk:VW E){c:Code}(l:List (PC P G)){e:AX}{fr2:List AV}{s2:AS}(h:xC fr2 (Tw P G 300 c [] (pHs l) fr s)=some (e,mH l,fr2,s2))(hp:∀v,e≠.pan v)(hq:Q e fr2 s2 E):WE P G E c fr s Q:=by
 unfold xC at h;split at h;rename_i e' cd fr' s' hr;simp only[Option.some.injEq,Prod.mk.injEq] at h;obtain⟨rfl,rfl,hfr,rfl⟩:=h;have hw:W P G (XS P G) H0 c fr s (λe2 f2 s2=>e2=e'/\f2=fr'/\s2=s'):=Ac 300 l _ _ _ _ hr (Pn l) ⟨rfl,rfl,rfl⟩;obtain⟨e1,f1,s1,hj,rfl,rfl,rfl⟩:=hw;have hS:=sound (Tv hm) hj;intro cx w a K hE hs hf hd hK;refine hS cx w a K hs hf hd ?_;rintro e'' a' w' ⟨c',hx,hs',Sy,h4⟩;refine hK _ _ _ E hq c' w' a' e'' (hk _ _ _ _ hE hx) hs' Sy ?_;rw[<- hfr];cases e1 with
 | normal=>exact⟨h4.1,Sg h4.2⟩
 | exit id=>exact⟨h4.1,Sg h4.2⟩
 | ret=>exact⟨h4.1,Sg h4.2⟩
 | pan v=>exact absurd rfl (hp v)
 cases h
end
end AI
namespace AI
open Go Go.RowKit
section
variable {P:Program} {G:Bc} {E:EW} {fr:List AV} {s:AS} {Q:QE}
def WE.wk{c:Code}{fr2:List AV}(h:wkF fr fr2=fr2)(k:WE P G E c fr2 s Q):WE P G E c fr s Q:=λcx w a K hE hs hf hd hK=>k cx w a K hE hs (by rw[<- h];exact Sg hf) hd hK
def WE.wZ{c:Code}{id:Nat}{b b2:Bo}(hb:look id s.h=some b)(hk:∀(cx:Cx) (w:World) (o:Obj),FD cx w b o->FD cx w b2 o)(k:WE P G E c fr ⟨tX id b2 s.h,s.nx,s.F,s.nr⟩ Q):WE P G E c fr s Q:=λcx w a K hE hs hf hd hK=>k cx w a K hE (hs.wZ hb (λo ho=>hk cx w o ho)) hf hd hK
def Ud.q(hm:P.follows .mixedOrders=true)(hk:VW E){c:Code}{n i:Nat}{l:List Nat}(hr:eE c n=true)(hi:i < n)(v:AV)(hw:CC (IK c) fr (opAt c i)=true)(h:Qo P G fr s (opAt c i)=some (.val v s))(t:Ud P G E (IK c) l (Jw fr (opAt c i).dst v) s Q):Ud P G E (IK c) (i::l) fr s Q :=
 .op hm hk v (P1 hr hi) (.N4 hw h) t
def Ud.hb(hm:P.follows .mixedOrders=true)(hk:VW E){c:Code}{n i:Nat}{l:List Nat}(hr:eE c n=true)(hi:i < n){B:Bool}(b:Bool)(hB:B=b)(h:ZW P G (IK c) fr s (opAt c i) [.b b]=some (.sc (.bool b),s,[],[.eqb B b]))(t:Ud P G E (IK c) l (Jw fr (opAt c i).dst (.sc (.bool b))) s Q):Ud P G E (IK c) (i::l) fr s Q :=
 .op hm hk (.sc (.bool b)) (P1 hr hi) (Pj h ⟨hB,trivial⟩) t
def Ud.hi(hm:P.follows .mixedOrders=true)(hk:VW E){c:Code}{n i:Nat}{l:List Nat}(hr:eE c n=true)(hi:i < n){X:Int}(z:Int)(hX:X=z)(h:ZW P G (IK c) fr s (opAt c i) [.i z]=some (.sc (.int .i64 z),s,[],[.eqi X z]))(t:Ud P G E (IK c) l (Jw fr (opAt c i).dst (.sc (.int .i64 z))) s Q):Ud P G E (IK c) (i::l) fr s Q :=
 .op hm hk (.sc (.int .i64 z)) (P1 hr hi) (Pj h ⟨hX,trivial⟩) t
def WE.mono{c:Code}{Q2:QE}(h:WE P G E c fr s Q2)(hq:∀e fr' s' E',Q2 e fr' s' E'->Q e fr' s' E'):WE P G E c fr s Q:=λcx w a K hE hs hf hd hK=>h cx w a K hE hs hf hd (λe fr s E h2=>hK e fr s E (hq _ _ _ _ h2))
end
end AI
namespace AI
open Go Go.RowKit
end AI
namespace AI
open Go Go.RowKit
end AI
namespace AI
open Go Go.RowKit
section
variable {P:Program} {G:Bc} {α δ:Type} {enc:α->AV} {encd:δ->AV}
abbrev IX(enc:α->AV)(encd:δ->AV):α⊕δ->CR
 | .inl a=>.ret (enc a)
 | .inr d=>.pan (encd d)
def Qp(P:Program)(G:Bc)(fn:Func)(m:Nat)(s0:AS)(enc:α->AV)(encd:δ->AV)(Q:AX->List AV->AS->Prop)(y:α⊕δ)(s2:AS):Prop:=match y with
 | .inl a=>Rr P G fn m s0 Q (enc a) s2
 | .inr d=>Tl G m s0 Q (encd d) s2
def Qp.body{fn:Func}{m:Nat}{s0 s2:AS}{y:α⊕δ}:Qp P G fn m s0 enc encd (Un P fn m (QM G s0 (IX enc encd y) s2)) y s2:=by
 cases y with
 | inl a=>exact Rr.body
 | inr d=>exact Tl.body
def Qp.outer{fn:Func}{m id:Nat}{ks:List KI}{s0 s2:AS}{Q:AX->List AV->AS->Prop}{y:α⊕δ}(h:Qp P G fn m s0 enc encd Q y s2):Qp P G fn m s0 enc encd (EP id (Ee P G ks Q)) y s2:=by
 cases y with
 | inl a=>exact Rr.outer h
 | inr d=>exact Tl.outer h
def Qp.Gb{fn:Func}{m:Nat}{L:Code}{s0 s1 s2:AS}{Q:AX->List AV->AS->Prop}{y:α⊕δ}(h:Qp P G fn m s0 enc encd Q y s2):Qp P G fn m s0 enc encd (TW P G L s1 Q) y s2:=by
 cases y with
 | inl a=>exact Rr.Gb h
 | inr d=>exact Tl.Gb h
def anL(n m0:Nat)(m:Nat)(pY bs:List AV)(cs:List (Option Bo)):HR->Option (List Cd×List AV×AS×List AV×List (Option Bo))
 | some (.fin (.pan v),[],cd,_,s)=>(match afS pY n m0 [v] (s.cut m) bs cs with
     | some (fr2,s2,as,cas)=>some (cd,fr2,s2,as,cas)
     | none=>none)
 | _=>none
def BR(hG:∀g cs,G g=some cs->BS cs=true){r:HR}{X:Prop}{s0:AS}{Q:AX->List AV->AS->Prop}(m:Nat){l:List (PC P G)}(fps:List (FP s0.nx s0.nr))(WX:List (FO s0.nx s0.nr)){v:AV}{s2:AS}(R:Vg P G l Q r X)
   (h:anL s0.nx s0.nr m [v] (mD fps) (nK WX) r=some (mH l,[v],s2,rD fps,yS WX)) (k:Tl G m s0 Q v s2):X:=by
 unfold anL at h;split at h;split at h;rename_i h1;simp only[Option.some.injEq,Prod.mk.injEq] at h;obtain⟨rfl,rfl,rfl,rfl,rfl⟩:=h;exact R _ _ _ _ rfl (Pn l) (k _ _ (eG hG h1) _ _ rfl);cases h;cases h
def Mp{k j:Nat}{ρ σ:Nat->Nat}(h1:∀a,plain (enc a)=true)(h2:∀d,plain (encd d)=true)(y:α⊕δ):RnR k j ρ σ (IX enc encd y) (IX enc encd y):=by
 cases y with
 | inl a=>exact .pl (h1 a)
 | inr d=>exact .pl (h2 d)
def SW{γ:Type}{f:α->Option γ}{g:δ->Option γ}{y:α⊕δ}{r:γ}{X:Prop}(h1:∀a,y=.inl a->f a=some r->X)(h2:∀d,y=.inr d->g d=some r->X):Sum.elim f g y=some r->X:=by
 cases y with
 | inl a=>exact h1 a rfl
 | inr d=>exact h2 d rfl
def Q8.ixa{α:Type}{f:α->List AV}{C:List α->List AV}{k:Nat}(h:Q8 f C k){t elem len:Nat}(hu:P.underlying t=some (.array len elem))(hs:(P.info? elem).map (·.size)=some k){l:List α}(hl:l.length=len){z:Int}{x:α}(hx:G5 l z=some x):Dz P t (.el (C l)) (.sc (.int .i64 z))=some (.el (f x++C (l.drop (z.toNat+1)))):=by
 unfold G5 at hx;split at hx
 · rename_i hz
   have hi:=(List.getElem?_eq_some_iff.1 hx).1
   have hn:SK (.sc (.int .i64 z))=some z.toNat:=by
     unfold SK;simp[hz]
   cases he:P.info? elem with
   | none=>rw[he] at hs;cases hs
   | some e =>
     rw[he] at hs;have hk:e.size=k:=by simpa using hs
     subst hl;unfold Dz;rw[hu,hn];simp only[he,hk,if_pos hi];rw[h.eq,h.eq,aK h.len hx]
 cases hx
def aDS(z:List NZ)(pY:List AV):HR->Option (AX×List Cd×List AV×AS)
 | some (.fin e,[],cd,fr,s)=>(match nzs z fr s with
   | some (fr2,s2)=>some (e,cd,wkF fr2 pY,s2)
   | none=>none)
 | _=>none
def Ej{r:HR}{X:Prop}{L:Code}{s0:AS}{Q:AX->List AV->AS->Prop}{l:List (PC P G)}(z:List NZ){fr2:List AV}{s2:AS}(R:Vg P G l (TW P G L s0 Q) r X)(h:aDS z fr2 r=some (.normal,mH l,fr2,s2))(k:WL P G (XS P G) H0 L fr2 s2 Q):X:=by
 unfold aDS at h;split at h;split at h;rename_i fr3 s3 hz;simp only[Option.some.injEq,Prod.mk.injEq] at h;obtain⟨rfl,rfl,h3,rfl⟩:=h;refine R _ _ _ _ rfl (Pn l) ⟨_,_,λcx w c' w' vs hx _ hs' hr=>?_,k⟩;obtain⟨c2,x2,Xg,r2⟩:=oV hz c' w' vs hs' hr;exact⟨c2,hx.trans x2,Xg,h3▸Sg r2⟩;cases h;cases h
def Dx{M X:Prop}{L:Code}{fr:List AV}{s:AS}{Q:AX->List AV->AS->Prop}(RD:WL P G (XS P G) H0 L fr s Q->X)(k:M->W P G (XS P G) H0 L fr s (TW P G L s Q)):M->X:=λh=>RD (bQ (k h))
def dJ{M X Y:Prop}(RD:Y->X)(k:M->Y):M->X:=λh=>RD (k h)
def ppn:PC P G:=⟨.p .any ⟨[],0,[],0⟩,[],trivial⟩
def pzq(c:Nat):PC P G:=⟨.zq c,[],trivial⟩
def anN{f:FuncId}{args V0:List AV}{v:AV}{pre:List (Nat×Bo)}{tp:List (Nat×Nat)}{Q3:List (Nat×Bo)}{tu:List (Nat×Nat)}(w:Wn args V0)(h:Cd.ok P G (.E9 f V0 (.pan v) pre tp Q3 tu)):PC P G :=
 ⟨.q v pre tp Q3 tu,[.E9 f args (.pan v) pre tp Q3 tu,.yQ (OC pre) (OC pre) (O5 tp) (O5 tp)],⟨λs h1 h2 cx wd vs hs ha=>h s h1 h2 cx wd vs hs (w.ok ha),⟨rfl,rfl⟩,trivial⟩⟩
end
end AI
namespace AI
open Go
section
variable {α γ δ ρ:Type}
def allI(p:Nat->α->Bool):List α->Nat->Bool
 | [],_=>true
 | y::l,i=>p i y&&allI p l (i+1)
def iA{body:Nat->α->Unit->Option (Lp Unit δ ρ)}{done:Unit->δ}{p:Nat->α->Bool}{v:ρ}:∀{l:List α} {i:Nat},(∀k y,l[k]?=some y->body (i+k) y ()=some (if p (i+k) y then .nx () else .rt v))->C4 body done l i ()=some (if allI p l i then .inl (done ()) else .inr v)
 | [],i,_=>rfl
 | y::l,i,h=>by
   have h0:=h 0 y rfl;rw[Nat.add_zero] at h0;rw[C4,h0,allI];cases p i y with
   | false=>simp[Rb]
   | true =>
     have:=iA (body:=body) (done:=done) (p:=p) (v:=v) (l:=l) (i:=i+1) λk z hz=>by
       have:=h (k+1) z (by simpa using hz)
       rwa[show i+(k+1)=i+1+k by omega] at this
     simpa[Rb] using this
def R4{β:Type}{n:Nat}{x:Option β}(h:n<=9223372036854775807):Tc n x=x:=by unfold Tc;rw[if_pos h]
def Gm{β:Type}{n:Nat}{x:Option β}(h:n<=100000000):MA n x=x:=by unfold MA;rw[if_pos h]
end
end AI
namespace AI
open Go
def mb(p:Prop):Bool:=@decide p (Classical.propDecidable _)
def DA{p:Prop}:mb p=true↔p:=by unfold mb;exact @decide_eq_true_iff p (_)
def MD{p q:Prop}(h:p↔q):mb p=mb q:=by rw[propext h]
def Lg{β:Type}(p:Prop)(x y:β):β:=@ite β p (Classical.propDecidable _) x y
def CI{β:Type}{p:Prop}{x y:β}(h:p):Lg p x y=x:=@if_pos p (_) h _ _ _
def CL{β:Type}{p:Prop}{x y:β}(h:¬p):Lg p x y=y:=@if_neg p (_) h _ _ _
section
variable {β:Type} {x y:β}
def No(p:Prop):cond (mb p) x y=Lg p x y:=by
 by_cases h:p;rw[CI h,DA.2 h];rfl;rw[CL h]
 have:mb p=false:=by
   cases hm:mb p;rfl;exact absurd (DA.1 hm) h
 rw[this];rfl
end
section
variable {p q r:Prop}
def iY:Lg p (some true) (some false)=some (mb p):=by
 by_cases h:p;rw[CI h,DA.2 h];rw[CL h];congr 1;cases hm:mb p;rfl;exact absurd (DA.1 hm) h
def axT:Lg p (some (mb q)) (some false)=some (mb (p/\q)):=by
 by_cases h:p;rw[CI h];congr 1;rw[Bool.eq_iff_iff,DA,DA];simp[h];rw[CL h];congr 1;rw[Bool.eq_iff_iff,DA];simp[h]
def aLR:Lg p (some false) (some (mb q))=some (mb (¬p/\q)):=by
 by_cases h:p;rw[CI h];congr 1;rw[Bool.eq_iff_iff,DA];simp[h];rw[CL h];congr 1;rw[Bool.eq_iff_iff,DA,DA];simp[h]
def axU:Lg p (some true) (some (mb q))=some (mb (p\/q)):=by
 by_cases h:p;rw[CI h];congr 1;rw[Bool.eq_iff_iff,DA];simp[h];rw[CL h];congr 1;rw[Bool.eq_iff_iff,DA,DA];simp[h]
def ck{δ ρ:Type}(v:ρ)(p:Prop):Lp Unit δ ρ:=Lg p (.nx ()) (.rt v)
variable {δ ρ:Type} {v:ρ}
def aCV:Lg p (some (.nx ())) (some (.rt v))=some (ck (δ:=δ) v p):=by
 unfold ck;by_cases h:p;rw[CI h,CI h];rw[CL h,CL h]
def amI:Lg p (some (.rt v)) (some (.nx ()))=some (ck (δ:=δ) v ¬p):=by
 unfold ck;by_cases h:p;rw[CI h,CL (by simp[h])];rw[CL h,CI h]
def axK:Lg p (some (ck (δ:=δ) v q)) (some (.rt v))=some (ck v (p/\q)):=by
 unfold ck;by_cases h:p;rw[CI h];simp[h];rw[CL h,CL (by simp[h])]
def amJ:Lg p (some (.rt v)) (some (ck (δ:=δ) v q))=some (ck v (¬p/\q)):=by
 unfold ck;by_cases h:p;rw[CI h,CL (by simp[h])];rw[CL h];simp[h]
def axJ:Lg p (some (ck (δ:=δ) v q)) (some (.nx ()))=some (ck v (p->q)):=by
 unfold ck;by_cases h:p;rw[CI h];simp[h];rw[CL h,CI (by simp[h])]
def aLN:Lg p (some (.nx ())) (some (ck (δ:=δ) v q))=some (ck v (p\/q)):=by
 unfold ck;by_cases h:p;rw[CI h,CI (by simp[h])];rw[CL h];simp[h]
def aLO:Lg p (some (ck (δ:=δ) v q)) (some (ck v r))=some (ck v ((p->q)/\(¬p->r))):=by
 unfold ck;by_cases h:p;rw[CI h];simp[h];rw[CL h];simp[h]
def dM{α β:Type}{l:List α}{body:Nat->α->Unit->Option (Lp Unit Unit ρ)}{P:Nat->α->Prop}{k:Unit->Option β}{kr:ρ->Option β}(hl:l.length<=9223372036854775807)(hb:∀i y,l[i]?=some y->body i y ()=some (ck v (P i y))):(Tc l.length (C4 body (λ_=>()) (l.drop 0) 0 ())).bind (MC k kr)=Lg (∀i y,l[i]?=some y->P i y) (k ()) (kr v):=by
 rw[R4 hl,List.drop_zero]
 have h1:∀k y,l[k]?=some y->body (0+k) y ()=some (if mb (P (0+k) y) then .nx () else .rt v):=λk y hy=>by
   rw[Nat.zero_add,hb k y hy];unfold ck;by_cases h:P k y;rw[CI h,if_pos (DA.2 h)];rw[CL h,if_neg (λe=>h (DA.1 e))]
 rw[iA (p:=λi y=>mb (P i y)) (v:=v) h1]
 have h2:∀(l:List α) (i:Nat),allI (λi y=>mb (P i y)) l i=true↔∀k y,l[k]?=some y->P (i+k) y:=by
   intro l
   induction l with
   | nil=>intro i;simp[allI]
   | cons a l ih =>
     intro i;rw[allI,Bool.and_eq_true,DA,ih];constructor;rintro⟨h1,h2⟩ k y hk;cases k with
     | zero=>simp at hk;subst hk;exact h1
     | succ k=>rw[show i+(k+1)=i+1+k by omega];exact h2 k y (by simpa using hk)
     intro h;refine⟨h 0 a rfl,λk y hk=>?_⟩;rw[show i+1+k=i+(k+1) by omega];exact h (k+1) y (by simpa using hk)
 have h3:=h2 l 0;simp only[Nat.zero_add] at h3;by_cases h:∀i y,l[i]?=some y->P i y;rw[CI h,h3.2 h];rfl;rw[CL h]
 have:allI (λi y=>mb (P i y)) l 0=false:=by
   cases ha:allI (λi y=>mb (P i y)) l 0;rfl;exact absurd (h3.1 ha) h
 rw[this];rfl
end
end AI
namespace AI
open Go
def Sp{β:Type}(o:Option β)(Q:β->Prop):Prop:=∃r,o=some r/\Q r
section
variable {α β γ δ ρ κ:Type} {Q:β->Prop}
def Sp.mono{Q':β->Prop}{o:Option β}(h:Sp o Q)(k:∀r,Q r->Q' r):Sp o Q':=h.elim λr h=>⟨r,h.1,k r h.2⟩
def TC(a b:Int):N1 a b=mb (a<=b):=by rw[Yr,Bool.eq_iff_iff,DA,decide_eq_true_iff]
def Pm(a b:Int):DM a b=mb (a < b):=by rw[R5,Bool.eq_iff_iff,DA,decide_eq_true_iff]
def Lt(a b:Int):CS a b=mb (a=b):=by rw[Qy,Bool.eq_iff_iff,DA,beq_iff_eq]
def RW(a b:ByteArray):B2 a.data.toList b.data.toList=mb (a=b):=by
 rw[Tt,Bool.eq_iff_iff,DA,beq_iff_eq];exact⟨λh=>ByteArray.ext (Array.ext' h),λh=>by rw[h]⟩
def oS{p:Prop}:(mb p=true)=p:=propext DA
def Wf{p:Prop}:(mb p=false)=¬p:=by rw[<- Bool.not_eq_true,oS]
def hO{p:Prop}:(false=mb p)=¬p:=by rw[@eq_comm _ false,Wf]
def smb{p q:Prop}(h:p↔q):some (mb p)=some (mb q):=by rw[MD h]
def eR{p:Prop}(h:¬p):some false=some (mb p):=congrArg some (by rw[hO];exact h)
end
def Zg{n:Int}(h:-9223372036854775808<=n/\n<=9223372036854775807):Nh .i64 n=n:=by
 rw[U7];exact IntWalk.i64_in n (by omega)
def CY{a b:Int}(h:-9223372036854775808<=a+b/\a+b<=9223372036854775807):BC a b=a+b:=by
 unfold BC;rw[bU,Zg h]
def Kh{a b:Int}(h:-9223372036854775808<=a - b/\a - b<=9223372036854775807):LR a b=a - b:=by
 unfold LR;rw[eV,Zg h]
def IM{a b:Int}(h:-9223372036854775808<=a*b/\a*b<=9223372036854775807):BU a b=a*b:=by
 unfold BU;rw[Zg h]
end AI
namespace AI
open Go Go.RowKit
def ZC(w w1:World)(g:Nat):Prop:=w.heap.size<=g/\g < w1.heap.size
def Cx.ZJ(cx:Cx)(w w1:World):Cx:=⟨cx.base,cx.Dy,cx.rows,λg i=>cx.bad g i\/ZC w w1 g⟩
def Cx.VM(c:Cx)(cx:Cx):Cx:=⟨c.base,c.Dy,c.rows,cx.bad⟩
section
variable {G:Bc} {cx:Cx} {w w1:World} {s:AS}
def U4(k:Si w w1 (λ_=>False)):Mon cx w (cx.ZJ w w1) w1:=by
 refine⟨λ_ _ e=>e,Nat.le_refl _,λr y _ h=>⟨y,h,Ld.refl y⟩,λg i v hv=>⟨Nat.lt_of_lt_of_le hv.1 k.size,λhs=>?_,by rw[k.cell hv.1 id];exact hv.2.2⟩⟩;rcases hs with hs | hs | hs | hs
 exact hv.2.1 (.inl hs);exact hv.2.1 (.inr (.inl hs));exact hv.2.1 (.inr (.inr hs));have:=hs.1;have:=hv.1;omega
def uG(h:St G cx w s)(k:Si w w1 (λ_=>False)):St G (cx.ZJ w w1) w1 s:=by
 have m:=U4 (cx:=cx) k;refine⟨h.len,h.desc,h.nodup,h.low,λid g b h1 h2=>?_,h.JU,λr g n cap sz hr=>?_,h.Kn,λg hg=>Nat.lt_of_lt_of_le (h.OQ g hg) k.size,λg i hb=>?_,h.JR,λg cs hg=>(h.Ph g cs hg).DB m,Nat.le_trans h.RS k.size⟩;obtain⟨o,ho,hb⟩:=h.box id g b h1 h2;exact⟨o,by rw[k.block g (Array.getElem?_eq_some_iff.1 ho).1 not_false];exact ho,hb.DB m⟩;have hl:=h.QT hr;obtain⟨Np,h2,h3,h4,vs,T,ho,h5⟩:=h.row r g n cap sz hr;refine⟨λi hb=>?_,h2,h3,h4,vs,T,by rw[k.block g (Array.getElem?_eq_some_iff.1 ho).1 not_false];exact ho,h5⟩;rcases hb with hb | hb
 exact Np i hb;have:=hb.1;omega;rcases hb with hb | hb
 exact Nat.lt_of_lt_of_le (h.OH g i hb) k.size;exact hb.2
variable {c':Cx} {w' w2:World} {s':AS}
def TY(hx:Ext (cx.ZJ w w1) w1 c' w')(k2:Si w' w2 (ZC w w1)):Mon c' w' (c'.VM cx) w2:=by
 refine⟨λ_ _ e=>e,Nat.le_refl _,λr y _ h=>⟨y,h,Ld.refl y⟩,λg i v hv=>⟨Nat.lt_of_lt_of_le hv.1 k2.size,λhs=>?_,?_⟩⟩;rcases hs with hs | hs | hs
 exact hv.2.1 (.inl hs);exact hv.2.1 (.inr (.inl hs));exact hv.2.1 (.inr (.inr (by rw[hx.bad];exact .inl hs)));rw[k2.cell hv.1 (λhk=>hv.2.1 (.inr (.inr (by rw[hx.bad];exact .inr hk))))];exact hv.2.2
def Y7(h:St G cx w s)(k:Si w w1 (λ_=>False))(hx:Ext (cx.ZJ w w1) w1 c' w')(k2:Si w' w2 (ZC w w1)):Ext cx w (c'.VM cx) w2:=by
 have m:=U4 (cx:=cx) k;have m2:=TY hx k2;refine⟨hx.Dy,hx.JU,hx.rows,λg i v hv=>m2.fC g i v (hx.fC g i v (m.fC g i v hv)),?_,hx.base,rfl,λg hg=>?_,λr g n cap sz hr=>?_,λq hq hp hr=>?_⟩;have b1:Below cx.base w w1:=k.below h.RS (λ_ h=>h.elim);have b2:Below cx.base w1 w':=hx.below;have b3:Below cx.base w' w2:=k2.below (Nat.le_trans (Nat.le_trans h.RS k.size) b2.size) (λq hq=>Nat.le_trans h.RS hq.1);exact(b1.trans b2).trans b3;rcases hx.jP g hg with h1 | h1
 exact .inl h1;exact .inr (Nat.le_trans k.size h1);rcases hx.kB r g n cap sz hr with h1 | h1
 exact .inl h1;exact .inr (Nat.le_trans k.size h1);have hq1:q < w1.heap.size:=Nat.lt_of_lt_of_le hq k.size;rw[k2.block q (Nat.lt_of_lt_of_le hq1 hx.below.size) (λhn=>by have:=hn.1;omega),hx.UF q hq1 hp hr,k.block q hq not_false]
def aZ(h:St G cx w s)(hx:Ext (cx.ZJ w w1) w1 c' w')(hs':St G c' w' s')(k2:Si w' w2 (ZC w w1)):St G (c'.VM cx) w2 s':=by
 have m2:=TY hx k2
 have Ty:∀g,some g∈c'.Dy->¬ZC w w1 g:=by
   intro g hg hn;rcases hx.jP g hg with h1 | h1
   have:=h.OQ g h1;have:=hn.1;omega;have:=hn.2;omega
 refine⟨hs'.len,hs'.desc,hs'.nodup,hs'.low,λid g b h1 h2=>?_,hs'.JU,λr g n cap sz hr=>?_,hs'.Kn,λg hg=>Nat.lt_of_lt_of_le (hs'.OQ g hg) k2.size,λg i hb=>Nat.lt_of_lt_of_le (hs'.OH g i (by rw[hx.bad];exact .inl hb)) k2.size,hs'.JR,λg cs hg=>(hs'.Ph g cs hg).DB m2,Nat.le_trans hs'.RS k2.size⟩;obtain⟨o,ho,hb⟩:=hs'.box id g b h1 h2;exact⟨o,by rw[k2.block g (Array.getElem?_eq_some_iff.1 ho).1 (Ty g (List.mem_of_getElem? h1))];exact ho,hb.DB m2⟩;obtain⟨Np,h2,h3,h4,vs,T,ho,h5⟩:=hs'.row r g n cap sz hr;have hb:c'.bad=λg i=>cx.bad g i\/ZC w w1 g:=hx.bad;exact⟨λi Ve=>Np i (by rw[hb];exact .inl Ve),h2,h3,h4,vs,T,by rw[k2.block g (Array.getElem?_eq_some_iff.1 ho).1 (λhn=>Np 0 (by rw[hb];exact .inr hn))];exact ho,h5⟩
def NL(h:St G cx w s)(hx:Ext (cx.ZJ w w1) w1 c' w'){q:Nat}(hq:ZC w w1 q):w'.heap[q]?=w1.heap[q]?:=by
 refine hx.UF q hq.2 (λhm=>?_) (λr n cap sz hr=>?_);have:=h.OQ q hm;have:=hq.1;omega;have:=h.QT (r:=r) hr;have:=hq.1;omega
end
end AI
