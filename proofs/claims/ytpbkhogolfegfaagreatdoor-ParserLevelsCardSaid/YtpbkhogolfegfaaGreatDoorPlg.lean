/- Part of a proof: see the last text. -/
import Derived.Test.YtpbkhogolfegfaaGreatDoorPlf
import Derived.Laws.StructEq
set_option linter.unusedVariables false
set_option linter.unusedSimpArgs false
set_option linter.defProp false
noncomputable section
namespace AI
open Go Go.RowKit
inductive Wn:List AV->List AV->Prop where
 | nil:Wn [] []
 | r {a:AV} {l k:List AV} (t:Wn l k):Wn (a::l) (a::k)
 | s {o:Own} {n:Nat} {cs ds l k:List AV} (h:cs=ds) (t:Wn l k):Wn (.sl o n cs::l) (.sl .lost n ds::k)
 | d {o:Own} {n:Nat} {cs ds es l k:List AV} (h:Wn cs ds) (e:ds=es) (t:Wn l k):Wn (.sl o n cs::l) (.sl .lost n es::k)
 | g {cs ds l k:List AV} (h:Wn cs ds) (t:Wn l k):Wn (.agg cs::l) (.agg ds::k)
 | u {cs ds l k:List AV} (h:Wn cs ds) (t:Wn l k):Wn (.Dd cs::l) (.Dd ds::k)
def Wn.refl:∀l:List AV,Wn l l
 | []=>.nil
 | _::l=>.r (Wn.refl l)
def Wn.len{l k:List AV}(h:Wn l k):l.length=k.length:=by
 induction h with
 | nil=>rfl
 | r _ ih=>simp[ih]
 | s _ _ ih=>simp[ih]
 | d _ _ _ _ ih=>simp[ih]
 | g _ _ _ ih=>simp[ih]
 | u _ _ _ ih=>simp[ih]
section
variable {c:Cx} {w:World}
mutual
def Wn.ok:∀{l k:List AV},Wn l k->∀{vs:List Value},CH c w l vs->CH c w k vs
 | _,_,.nil,_,hr=>hr
 | _,_,.r t,_,hr=>by cases hr with | cons h1 t1=>exact .cons h1 (t.ok t1)
 | _,_,.s h t,_,hr=>by
   subst h;cases hr with
   | cons h1 t1 =>
     refine .cons ?_ (t.ok t1);cases h1 with
     | sl0 _=>exact .sl0 trivial
     | KM hn hc ho=>exact .KM hn hc trivial
 | _,_,.d h e t,_,hr=>by
   subst e;cases hr with
   | cons h1 t1 =>
     refine .cons ?_ (t.ok t1);cases h1 with
     | sl0 _=>cases h;exact .sl0 trivial
     | KM hn hc ho=>exact .KM hn (h.okC hc) trivial
 | _,_,.g h t,_,hr=>by
   cases hr with
   | cons h1 t1 =>
     refine .cons ?_ (t.ok t1);cases h1 with
     | agg h2=>exact .agg (h.ok h2)
 | _,_,.u h t,_,hr=>by
   cases hr with
   | cons h1 t1 =>
     refine .cons ?_ (t.ok t1);cases h1 with
     | Dd h2=>exact .Dd (h.ok h2)
def Wn.okC:∀{l k:List AV},Wn l k->∀{g o:Nat},Bc c w g o l->Bc c w g o k
 | _,_,.nil,_,_,hr=>hr
 | _,_,.r t,_,_,hr=>by cases hr with | cons hv h1 t1=>exact .cons hv h1 (t.okC t1)
 | _,_,.s h t,_,_,hr=>by
   subst h;cases hr with
   | cons hv h1 t1 =>
     refine .cons hv ?_ (t.okC t1);cases h1 with
     | sl0 _=>exact .sl0 trivial
     | KM hn hc ho=>exact .KM hn hc trivial
 | _,_,.d h e t,_,_,hr=>by
   subst e;cases hr with
   | cons hv h1 t1 =>
     refine .cons hv ?_ (t.okC t1);cases h1 with
     | sl0 _=>cases h;exact .sl0 trivial
     | KM hn hc ho=>exact .KM hn (h.okC hc) trivial
 | _,_,.g h t,_,_,hr=>by
   cases hr with
   | cons hv h1 t1 =>
     refine .cons hv ?_ (t.okC t1);cases h1 with
     | agg h2=>exact .agg (h.ok h2)
 | _,_,.u h t,_,_,hr=>by
   cases hr with
   | cons hv h1 t1 =>
     refine .cons hv ?_ (t.okC t1);cases h1 with
     | Dd h2=>exact .Dd (h.ok h2)
end
end
def Wn.T7{a b c d:List AV}(h:Wn a b)(k:Wn c d):Wn (a++c) (b++d):=by
 induction a generalizing b with
 | nil=>cases h;exact k
 | cons x a ih =>
   cases h with
   | r t=>exact .r (ih t)
   | s h t=>exact .s h (ih t)
   | d h e t=>exact .d h e (ih t)
   | g h t=>exact .g h (ih t)
   | u h t=>exact .u h (ih t)
def Rp.wnC{c:Cx}{w:World}{o:Own}{q:Nat}{cs ds:List AV}{u:Value}(h:Wn cs ds)(hr:Rp c w (.sl o q cs) u):Rp c w (.sl o q ds) u:=by
 cases hr with
 | sl0 h0=>cases h;exact .sl0 h0
 | KM hn hc ho=>exact .KM hn (h.okC hc) (by rw[<- h.len];exact ho)
def Fits.wn{n m:Nat}{a b:AV}(h:Wn [a] [b])(hp:AI.plain b=true):Fits n m a b:=λc w v hr=>by
 have:=h.ok (.cons hr .nil);cases this with
 | cons h1 _=>exact Fits.plain hp c w v h1
section
variable {P:Program} {G:A8}
def D6(hm:P.follows .mixedOrders=true)(hG:∀g cs,G g=some cs->BC cs=true){f:FuncId}{args:List AV}{v:AV}(h:WC P G (XS P G) H0 f args s0 (λr _=>∃a,r=.ret a/\Fits 0 0 a v))(hp:BC args=true)(hv:plain v=true):Pure P G f args v:=by
 obtain⟨r,s',hj,a,rfl,hf⟩:=h;have hS:=sound (Rz hm) hj;intro s cx w vs hs GD
 have IB:∀g i x,LG cx w g i x->LG ⟨w.heap.size,[],[],cx.ZF⟩ w g i x:=by
   intro g i x hx;refine⟨hx.1,λGG=>?_,hx.2.2⟩;rcases GG with GG | ⟨r,n,cap,sz,hr,_⟩ | GG
   cases GG;simp at hr;exact hx.2.1 GG
 have FW:St G ⟨w.heap.size,[],[],cx.ZF⟩ w s0 :=
   ⟨rfl,trivial,(λi j g h1=>by simp at h1),(λg hg=>by cases hg),(λid g b h1=>by simp at h1),rfl,(λr g n cap sz hr=>by simp at hr),(λr n hr=>by cases hr),(λg hg=>by cases hg),(λg i hb=>hs.TP hb),(λr r' g n cap sz n' cap' M4 hr=>by simp at hr),(λg cs hg=>Bc.plain IB (hG g cs hg) (hs.Mp g cs hg)),Nat.le_refl _⟩
 refine(hS _ w vs FW (CH.plain IB hp GD)).mono ?_;rintro e w' ⟨c',hx,_,u,rfl,hu⟩;have N3:=hx.below;obtain⟨x2,T8⟩:=hs.same (w':=w') ⟨N3.os,N3.tape,N3.output,N3.size,λk hk _=>N3.block k hk⟩;refine⟨cx,x2,T8,u,rfl,Rp.plain (c:=c'.upto 0 0) (λg i x iY=>⟨iY.1,λGG=>iY.2.1 (.inr (.inr ?_)),iY.2.2⟩) hv (hf _ _ _ hu)⟩;show c'.bad g i;rw[hx.bad];exact GG
def MK(P:Program)(fn:Func)(m:Nat)(Q:AX->List AV->AS->Prop)(v:AV):Prop:=∀a s2,Fits 0 0 a v->Rc P fn m Q a s2
def MK.body{fn:Func}{m:Nat}{v:AV}:MK P fn m (SW P fn m (λr _=>∃a,r=.ret a/\Fits 0 0 a v)) v:=λa _ h=>.body ⟨a,rfl,h⟩
def MK.outer{fn:Func}{m id:Nat}{ks:List KI}{Q:AX->List AV->AS->Prop}{v:AV}(h:MK P fn m Q v):MK P fn m (Di id (CY P G ks Q)) v:=λa s2 hf=>(h a s2 hf).outer
def SC{δ J:Type}(Q:AX->List AV->AS->Prop)(id:Nat)(F:δ->J->List AV)(S:δ->J->AS)(Ok:J->Prop)(d:δ):Prop:=∀j,Ok j->Q (.exit id) (F d j) (S d j)
def apN(P:Program)(fn:Func):HR->Option (List Cd×AV)
 | some (.fin .ret,[],cd,fr,s)=>(match GB P s fn fr with
   | some v=>some (cd,v)
   | none=>none)
 | _=>none
def AJ{r:HR}{X:Prop}{Q:AX->List AV->AS->Prop}{v w:AV}(fn:Func)(m:Nat){l:List (PC P G)}(R:Ue P G l Q r X)(h:apN P fn r=some (fQ l,v))(k:MK P fn m Q w)(hf:Fits 0 0 v w):X:=by
 unfold apN at h;split at h;rename_i cd fr' s';split at h;rename_i v' hv;simp only[Option.some.injEq,Prod.mk.injEq] at h;obtain⟨rfl,rfl⟩:=h;exact R _ _ _ _ rfl (NC l) (k _ _ hf _ _ hv rfl);cases h;cases h
def MK.G6{fn:Func}{m:Nat}{L:Code}{s0:AS}{Q:AX->List AV->AS->Prop}{v:AV}(h:MK P fn m Q v):MK P fn m (RT P G L s0 Q) v:=h
def N4{δ ρ β:Type}(k:δ->Option β)(kr:ρ->Option β):δ⊕ρ->Option β
 | .inl d=>k d
 | .inr v=>kr v
def pk:PC P G:=⟨.k,[],trivial⟩
def pb{B b:Bool}(h:B=b):PC P G:=⟨.b b,[.eqb B b],⟨h,trivial⟩⟩
def pn{B b:Bool}(h:B=b):PC P G:=⟨.b (!b),[.eqb (!B) (!b)],⟨by show(!B)=(!b);rw[h],trivial⟩⟩
def ayG{i:Nat}(h:i < 9223372036854775807):MH .i64 (aaU ((i:Nat):Int) 1)=((i+1:Nat):Int):=by
 rw[U1,bM];have:=ajX (i:=i+1) (by omega);rw[<- this];rfl
def aMX(i:Nat)(h:i < 9223372036854775807):PC P G:=⟨.i ((i+1:Nat):Int),[.eqi (MH .i64 (aaU ((i:Nat):Int) 1)) ((i+1:Nat):Int)],⟨ayG h,trivial⟩⟩
def Bb{f:FuncId}{args:List AV}{v:AV}(h:Pure P G f args v):PC P G:=⟨.w v,[.pur f args v],⟨h,trivial⟩⟩
def Hz{f:FuncId}{args VY:List AV}{v:AV}(w:Wn args VY)(h:Pure P G f VY v):PC P G:=⟨.w v,[.pur f args v],⟨λs cx wd vs hs ha=>h s cx wd vs hs (w.ok ha),trivial⟩⟩
def G5{t:TypeId}{a b v:AV}(h:CO P t a b=some v):PC P G:=⟨.w v,[.idx t a b v],⟨h,trivial⟩⟩
def pst{t:TypeId}{a b v:AV}(h:Lq P t a b=some v):PC P G:=⟨.w v,[.ix t a b v],⟨h,trivial⟩⟩
def Lg{op:BinOp}{t:TypeId}{x y:Operand}{a b v:AV}(h:Lf P op t x y a b=some v):PC P G:=⟨.w v,[.bin op t x y a b v],⟨h,trivial⟩⟩
def yI{t:TypeId}{a:AV}{l h m:Option AV}{v:AV}(e:KP P t a l h m=some v):PC P G:=⟨.o v,[.sli t a l h m v],⟨e,trivial⟩⟩
def BK(a b:Int):Int:=MH .i64 (aaU a b)
def SP(a b:Int):Int:=MH .i64 (eQ a b)
def BQ(a b:Int):Int:=MH .i64 (a*b)
def IA{α:Type}(l:List α)(z:Int):Option α:=if 0<=z then l[z.toNat]? else none
structure N2{α:Type}(f:α->List AV)(C:List α->List AV)(k:Nat):Prop where
 eq:∀l,C l=rows f l
 len:∀x,(f x).length=k
 pl:∀x,BC (f x)=true
def N2.T7{α:Type}{f:α->List AV}{C:List α->List AV}{k:Nat}(h:N2 f C k)(l m:List α):C (l++m)=C l++C m:=by rw[h.eq,h.eq,h.eq,Oz]
def N2.cons{α:Type}{f:α->List AV}{C:List α->List AV}{k:Nat}(h:N2 f C k)(x:α)(m:List α):C (x::m)=f x++C m:=by rw[h.eq,h.eq,F9]
def N2.Bz{α:Type}{f:α->List AV}{C:List α->List AV}{k:Nat}(h:N2 f C k)(l:List α):BC (C l)=true:=by rw[h.eq];exact qG λx _=>h.pl x
def N2.Kx{α:Type}{f:α->List AV}{C:List α->List AV}{k:Nat}(h:N2 f C k)(l:List α):plain (.sl .lost l.length (C l))=true:=by simp only[plain,h.Bz];rfl
def N2.CN{α:Type}{f:α->List AV}{C:List α->List AV}{k:Nat}(h:N2 f C k)(x:α):plain (.agg (f x))=true:=h.pl x
def N2.ix{α:Type}{f:α->List AV}{C:List α->List AV}{k:Nat}(h:N2 f C k){t elem:TypeId}(hu:P.underlying t=some (.slice elem))(hs:(P.info? elem).map (·.size)=some k)(own:Own){l:List α}{i:Nat}{x:α}(hx:l[i]?=some x):CO P t (.sl own l.length (C l)) (.sc (.int .i64 ((i:Nat):Int)))=some (.el (f x++C (l.drop (i+1)))):=by
 cases hi:P.info? elem with
 | none=>rw[hi] at hs;cases hs
 | some e =>
   rw[hi] at hs;rw[h.eq,h.eq];exact oS hu hi (by simpa using hs) h.len hx
def N2.ixz{α:Type}{f:α->List AV}{C:List α->List AV}{k:Nat}(h:N2 f C k){t elem:TypeId}(hu:P.underlying t=some (.slice elem))(hs:(P.info? elem).map (·.size)=some k)(own:Own){l:List α}{z:Int}{x:α}(hx:IA l z=some x):CO P t (.sl own l.length (C l)) (.sc (.int .i64 z))=some (.el (f x++C (l.drop (z.toNat+1)))):=by
 unfold IA at hx;split at hx;rename_i hz;have:=h.ix hu hs own hx;rwa[Int.toNat_of_nonneg hz] at this;cases hx
def N2.wn{α:Type}{f:α->List AV}{C:List α->List AV}{k:Nat}(h:N2 f C k)(m:List α){a:List AV}(w:Wn a (rows f m)):Wn a (C m):=by rw[h.eq];exact w
def Wk{α:Type}{f:α->List AV}{k:Nat}(hf:∀x,(f x).length=k)(l:List α)(i:Nat):(rows f l).drop (i*k)=rows f (l.drop i):=by
 induction l generalizing i with
 | nil=>simp[rows]
 | cons x l ih =>
   cases i with
   | zero=>simp
   | succ i =>
     rw[F9,List.drop_append,hf x,List.drop_eq_nil_of_le (by rw[hf x,Nat.add_mul];omega),List.nil_append,List.drop_succ_cons,<- ih i];congr 1;rw[Nat.add_mul];omega
def Wl{α:Type}{f:α->List AV}{k:Nat}(hf:∀x,(f x).length=k)(l:List α)(i:Nat):(rows f l).take (i*k)=rows f (l.take i):=by
 induction l generalizing i with
 | nil=>simp[rows]
 | cons x l ih =>
   cases i with
   | zero=>simp[rows]
   | succ i =>
     rw[F9,List.take_append,hf x,List.take_of_length_le (by rw[hf x,Nat.add_mul];omega),List.take_succ_cons,F9,<- ih i];congr 2;rw[Nat.add_mul];omega
def N2.sub{α:Type}{f:α->List AV}{C:List α->List AV}{k:Nat}(h:N2 f C k){t elem:TypeId}(hu:P.underlying t=some (.slice elem))(hs:(P.info? elem).map (·.size)=some k)(l q:Nat){s:List α}(h1:l<=q)(h2:q<=s.length)(lo hi:Option AV)(e1:Ml 0 lo=some l)(e2:Ml s.length hi=some q) :
   KP P t (.sl .lost s.length (C s)) lo hi none=some (.sl .lost ((s.drop l).take (q - l)).length (C ((s.drop l).take (q - l)))):=by
 cases O7:P.info? elem with
 | none=>rw[O7] at hs;cases hs
 | some e =>
   rw[O7] at hs;have hk:e.size=k:=by simpa using hs
   unfold KP;simp only[hu,O7,e1,e2,hk];rw[if_pos ⟨h1,h2,by rw[h.eq,Is h.len]⟩]
   have e3:(if l=0/\q=s.length then Own.lost else if q=s.length/\Own.lost=.full then .full else .lost)=.lost:=by
     split;rfl;split;rename_i hq;exact absurd hq.2 (by decide);rfl
   rw[e3,h.eq,h.eq,Wk h.len,Wl h.len];congr 2;simp;omega
def evt{β:Type}(f:Nat->Option β):Option β:=open Classical in if h:∃y,∃n0:Nat,∀n,n0<=n->f n=some y then some (Classical.choose h) else none
def nT{β:Type}{f:Nat->Option β}{y:β}(h:evt f=some y):∃n,f n=some y:=by
 unfold evt at h;split at h;rename_i hx;obtain⟨n0,hn⟩:=Classical.choose_spec hx;rw[Option.some.inj h] at hn;exact⟨n0,hn n0 (Nat.le_refl _)⟩;cases h
def Vk{β:Type}{f:Nat->Option β}{y:β}(n0:Nat)(h:∀n,n0<=n->f n=some y):evt f=some y:=by
 unfold evt;have hx:∃y,∃n0:Nat,∀n,n0<=n->f n=some y:=⟨y,n0,h⟩;rw[dif_pos hx];obtain⟨n1,hn⟩:=Classical.choose_spec hx;have h1:=h (max n0 n1) (Nat.le_max_left _ _);have h2:=hn (max n0 n1) (Nat.le_max_right _ _);rw[h1] at h2;rw[Option.some.inj h2]
def Lz{β:Type}(n:Nat)(x:Option β):Option β:=if n<=100000000 then x else none
def afM{β:Type}{n:Nat}{x:Option β}{r:β}(h:Lz n x=some r):n<=100000000/\x=some r:=by
 unfold Lz at h;split at h;rename_i h1;exact⟨h1,h⟩;cases h
def N2.Zg{α:Type}{f:α->List AV}{C:List α->List AV}{k:Nat}(h:N2 f C k){t tx e e2 by':Nat}(hu:P.underlying t=some (.slice e))(hux:P.underlying tx=some (.slice e2))(hi:(P.info? e).map (λi=>(i.size,i.bytes,i.zero.map (·.cells.size)))=some (k,by',some k))(hk:0 < k)(hb:by'<=10000)
   (own:Own) (l m:List α) {o:Own} {n:Nat} {ns:List AV} (hn:Wn ns (C m)) (iT:n=m.length) (ho:ns.all one=true) (hm:m.length≠0) (hlen:l.length+m.length<=100000000):Cd.ok P G (.Zg t tx own l.length (C l) (.sl o n ns) k (l++m).length (C (l++m))):=by
 subst iT;cases hq:P.info? e with
 | none=>rw[hq] at hi;cases hi
 | some i =>
   rw[hq] at hi;simp only[Option.map_some,Option.some.injEq,Prod.mk.injEq] at hi;obtain⟨h1,h2,h3⟩:=hi;cases hz:i.zero with
   | none=>rw[hz] at h3;cases h3
   | some z =>
     rw[hz] at h3;simp only[Option.map_some,Option.some.injEq] at h3;intro s OR;have hnl:ns.length=m.length*k:=by rw[hn.len,h.eq,Is h.len]
     have oH:(C l).length=l.length*k:=by rw[h.eq,Is h.len]
     refine⟨C l++ns,?_,λc w u o' hr=>?_⟩
     have hs:Wt P s i.size tx (.sl o m.length ns)=some (m.length,ns):=by
       unfold Wt;rw[hux,h1];simp only[hnl,if_true]
     unfold KN;simp only[hu,hq,hz];rw[if_pos ⟨by rw[h3,h1],by omega⟩,hs];simp only
     have hbb:(l.length+m.length)*i.bytes<=140737488355328:=by
       rw[h2];exact Nat.le_trans (Nat.mul_le_mul hlen hb) (by decide)
     rw[if_pos ⟨by rw[oH,h1],ho,hbb,by omega⟩,if_neg hm,h1,if_pos OR,List.length_append];rw[h.T7];exact Rp.wnC (Wn.T7 (Wn.refl (C l)) hn) hr
def PG{t tx:TypeId}{own:Own}{n:Nat}{cs:List AV}{b:AV}{sz k:Nat}{cs2:List AV}(h:Cd.ok P G (.Zg t tx own n cs b sz k cs2)):PC P G :=
 match own with
 | .row r z=>⟨.g sz k cs2,[.Zg t tx (.row r z) n cs b sz k cs2,.eqn n n],⟨h,rfl,trivial⟩⟩
 | .full=>⟨.g sz k cs2,[.Zg t tx .full n cs b sz k cs2],⟨h,trivial⟩⟩
 | _=>⟨.g sz k cs2,[],trivial⟩
def Bz{a:AV}{l:List AV}(h:plain a=true)(t:BC l=true):BC (a::l)=true:=by simp only[BC,h,t];rfl
def auM{a b:List AV}(ha:BC a=true)(hb:BC b=true):BC (a++b)=true:=by
 induction a with
 | nil=>exact hb
 | cons x a ih =>
   simp only[BC,Bool.and_eq_true,List.cons_append] at ha ⊢;exact⟨ha.1,ih ha.2⟩
def J9{n m:Nat}{a:AV}{l:List AV}(h:under n m a=true)(t:FC n m l=true):FC n m (a::l)=true:=by simp only[FC,h,t];rfl
end
end AI
namespace AI
open Go Go.RowKit
def JS{P:Program}{α β:Type}(m:Sem α)(f:α->Sem β):pv P (m >>= f)=(pv P m).bind λa=>pv P (f a):=by
 show pv P (m.bind f)=_
 induction m with
 | pure a=>rfl
 | program k ih=>exact ih P
 | mark _ k ih=>exact ih
 | _=>rfl
def MX{P:Program}{α:Type}(a:α):pv P (pure a:Sem α)=some a:=rfl
def TL{P:Program}:pv P program=some P:=rfl
def Kh{P:Program}{t:TypeId}{d:TypeDesc}(h:P.underlying t=some d):pv P (underlying t)=some d:=by
 unfold underlying;rw[JS,TL];simp only[Option.bind_some,h];rfl
def azQ{P:Program}{α:Type}(c:Prop)[Decidable c](a b:Sem α):pv P (if c then a else b)=if c then pv P a else pv P b:=by split<;>rfl
def UG{P:Program}(d:Nat)(t:TypeId)(xs ys:Array Value)(ht:P.underlying t=some (.struct (P.fieldsOf t)))(hp:P.stoodInHeld t=false) :
   pv P (Op.equalIn (d+1) t (.agg xs) (.agg ys))=pv P (Op.eqFields d xs ys (P.fieldsOf t).toList):=by
 simp only[Op.equalIn,JS,Kh ht,Option.bind_some,TL,hp,Bool.false_eq_true,if_false];rw[<- Array.forIn_toList];generalize (P.fieldsOf t).toList=fs;clear ht
 induction fs with
 | nil=>simp[Op.eqFields,MX]
 | cons f fs ih =>
   simp only[List.forIn_cons,Op.eqFields,JS,azQ];split
   · generalize pv P (part f.type xs f.offset)=r1
     cases r1 with
     | none=>simp
     | some a =>
       simp only[Option.bind_some];generalize pv P (part f.type ys f.offset)=r2;cases r2 with
       | none=>simp
       | some b =>
         simp only[Option.bind_some];generalize pv P (Op.equalIn d f.type a b)=r3;cases r3 with
         | none=>simp
         | some r =>
           cases r;simp[MX];simp only[Option.bind_some,Bool.not_true,Bool.false_eq_true,if_false,MX];exact ih
   simp only[MX,Option.bind_some];exact ih
def apF{P:Program}{t:TypeId}{k:IntKind}(h:P.underlying t=some (.int k))(cs:Array Value)(off:Nat){v:Value}(hv:cs[off]?=some v):pv P (part t cs off)=some v:=by
 unfold part isAgg;simp[JS,Kh h,MX,hv]
def YC{P:Program}(d:Nat){t:TypeId}{k k':IntKind}(a b:Int)(h:P.underlying t=some (.int k')):pv P (Op.equalIn (d+1) t (.int k a) (.int k b))=some (a == b):=by
 simp[Op.equalIn,JS,Kh h,MX]
def kC{P:Program}(op:BinOp)(t:TypeId)(x y:Operand)(xs ys:Array Value)(hm:P.eqGuardType P.depth t=false):pv P (eqGuard op t x y (.agg xs) (.agg ys))=some ():=by
 cases op<;>simp[eqGuard,JS,TL,hm,MX]
def Ry(P:Program)(t:TypeId):Nat:=match P.underlying t with
 | some (.int _)=>1
 | some .string=>2
 | _=>0
def fEq:Value->Value->Option Bool
 | .int k a,.int k' b=>if k=k' then some (a == b) else none
 | .string a,.string b=>some (a == b)
 | _,_=>none
def Zj:List Value->List Value->Option Bool
 | [],[]=>some true
 | a::as,b::bs=>(fEq a b).bind λr=>(match r with | true=>Zj as bs | false=>some false)
 | _,_=>none
def kD{P:Program}{t:TypeId}(h:Ry P t≠0)(cs:Array Value)(off:Nat){v:Value}(hv:cs[off]?=some v):pv P (part t cs off)=some v:=by
 unfold Ry at h;split at h;rename_i h1;exact apF h1 cs off hv;rename_i h1;unfold part isAgg;simp[JS,Kh h1,MX,hv];exact absurd rfl h
def azP{P:Program}(d:Nat){t:TypeId}{a b:Value}{r:Bool}(hk:(∃k n m,a=.int k n/\b=.int k m/\Ry P t=1)\/(∃x y,a=.string x/\b=.string y/\Ry P t=2))(h:fEq a b=some r):pv P (Op.equalIn (d+1) t a b)=some r:=by
 rcases hk with ⟨k,n,m,rfl,rfl,hk⟩ | ⟨x,y,rfl,rfl,hk⟩
 unfold Ry at hk;split at hk;rename_i h1;simp only[fEq,if_true] at h;rw[YC d n m h1];exact h;cases hk;cases hk;unfold Ry at hk;split at hk;cases hk;rename_i h1;simp only[fEq] at h;rw[<- h];simp[Op.equalIn,JS,Kh h1,MX];cases hk
def iB:List Nat->List Value->Prop
 | [],[]=>True
 | k::ks,v::vs=>((∃n,v=.int .i64 n/\k=1)\/(∃x,v=.string x/\k=2))/\iB ks vs
 | _,_=>False
def yJ{P:Program}(d:Nat):∀(fs:List Field) (off:Nat) (ks:List Nat) (xs ys:List Value) (us vs:List Value) (r:Bool),fs.map (λf=>Ry P f.type)=ks->(∀(i:Nat) f,fs[i]?=some f->f.name≠"_"/\f.offset=off+i)->xs.drop off=us->ys.drop off=vs->iB ks us->iB ks vs->Zj us vs=some r->pv P (Op.eqFields (d+1) xs.toArray ys.toArray fs)=some r:=by
 intro fs
 induction fs with
 | nil =>
   intro off ks xs ys us vs r fM _ hx hy h1 h2 h;cases ks with
   | cons=>cases fM
   | nil =>
     cases us<;>cases vs<;>simp only[iB,Zj] at h1 h2 h
     rw[<- h];rfl
 | cons f fs ih =>
   intro off ks xs ys us vs r fM hf hx hy h1 h2 h;cases ks with
   | nil=>cases fM
   | cons k ks =>
     cases us with
     | nil=>cases h1
     | cons u us =>
       cases vs with
       | nil=>cases h2
       | cons v vs =>
         simp only[List.map_cons,List.cons.injEq] at fM;obtain⟨hk,fM⟩:=fM;obtain⟨hn,ho⟩:=hf 0 f rfl;rw[Nat.add_zero] at ho;have hxu:xs.toArray[off]?=some u:=by rw[List.getElem?_toArray,<- List.head?_drop,hx];rfl
         have hyv:ys.toArray[off]?=some v:=by rw[List.getElem?_toArray,<- List.head?_drop,hy];rfl
         have hk0:Ry P f.type≠0:=by
           rw[hk];rcases h1.1 with ⟨_,_,e⟩ | ⟨_,_,e⟩<;>omega
         have hkk:(∃k n m,u=.int k n/\v=.int k m/\Ry P f.type=1)\/(∃x y,u=.string x/\v=.string y/\Ry P f.type=2):=by
           rw[hk];rcases h1.1 with ⟨n,e1,e2⟩ | ⟨n,e1,e2⟩<;>rcases h2.1 with ⟨m,e3,e4⟩ | ⟨m,e3,e4⟩
           exact .inl ⟨_,n,m,e1,e3,e2⟩;omega;omega;exact .inr ⟨n,m,e1,e3,e2⟩
         simp only[Zj] at h;cases hq:fEq u v with
         | none=>rw[hq] at h;cases h
         | some q =>
           rw[hq] at h;simp only[Op.eqFields,hn,ne_eq,not_false_eq_true,if_true,ho];simp only[JS,kD hk0 xs.toArray off hxu,kD hk0 ys.toArray off hyv,Option.bind_some,azP d hkk hq];cases q with
           | false =>
             have:r=false:=by simpa using h.symm
             subst this;rfl
           | true =>
             have ih:=ih (off+1) ks xs ys us vs r fM (λi f' hi=>by
               have:=hf (i+1) f' (by simpa using hi)
               exact⟨this.1,by rw[this.2];omega⟩) (by rw[<- List.tail_drop,hx];rfl) (by rw[<- List.tail_drop,hy];rfl) h1.2 h2.2 (by simpa using h)
             simpa using ih
structure Flat(P:Program)(t:TypeId)(ks:List Nat):Prop where
 st:P.underlying t=some (.struct (P.fieldsOf t))
 hp:P.stoodInHeld t=false
 hm:P.eqGuardType P.depth t=false
 kd:(P.fieldsOf t).toList.map (λf=>Ry P f.type)=ks
 nm:(P.fieldsOf t).toList.map (λf=>decide (f.name≠"_"))=List.replicate ks.length true
 of:(P.fieldsOf t).toList.map (λf=>f.offset)=List.range ks.length
def zM(vs:List Value):OC (vs.map .sc)=some vs:=by
 induction vs with
 | nil=>rfl
 | cons v vs ih=>simp[OC,YU,ih]
def Flat.pv{P:Program}{t:TypeId}{ks:List Nat}(h:Flat P t ks){us vs:List Value}{r:Bool}(h1:iB ks us)(h2:iB ks vs)(h3:Zj us vs=some r):AI.pv P (Op.equalIn (9998+1+1) t (.agg us.toArray) (.agg vs.toArray))=some r:=by
 rw[UG _ _ _ _ h.st h.hp];refine yJ 9998 _ 0 ks us vs us vs r h.kd (λi f hf=>?_) rfl rfl h1 h2 h3
 have hl:i < ks.length:=by
   have:=(List.getElem?_eq_some_iff.1 hf).1;have h5:=congrArg List.length h.kd;simp at h5 this;omega
 have a1:=congrArg (λl=>l[i]?) h.nm;have a2:=congrArg (λl=>l[i]?) h.of;simp only[List.getElem?_map,hf,Option.map_some,List.getElem?_replicate,hl,if_true,Option.some.injEq,decide_eq_true_eq] at a1;simp only[List.getElem?_map,hf,Option.map_some,List.getElem?_range hl,Option.some.injEq] at a2;exact⟨a1,by omega⟩
def Flat.bin{P:Program}{t:TypeId}{ks:List Nat}(h:Flat P t ks){us vs:List Value}{r:Bool}(h1:iB ks us)(h2:iB ks vs)(h3:Zj us vs=some r)(x y:Operand) :
   Lf P .eql t x y (.agg (us.map .sc)) (.agg (vs.map .sc))=some (.sc (.bool r))/\Lf P .neq t x y (.agg (us.map .sc)) (.agg (vs.map .sc))=some (.sc (.bool (!r))):=by
 have ht:∀l:List Value,UO (.agg (l.map .sc))=some (.agg l.toArray):=λl=>by simp only[UO,zM,Option.map_some]
 have hv:=h.pv h1 h2 h3
 have e1:AI.pv P (do eqGuard .eql t x y (.agg us.toArray) (.agg vs.toArray);binOp .eql t (.agg us.toArray) (.agg vs.toArray))=some (.bool r):=by
   rw[JS,kC _ _ _ _ _ _ h.hm];simp only[Option.bind_some,binOp,JS,Op.equal,Op.maxDepth];rw[show(10000:Nat)=9998+1+1 from rfl,hv];rfl
 have e2:AI.pv P (do eqGuard .neq t x y (.agg us.toArray) (.agg vs.toArray);binOp .neq t (.agg us.toArray) (.agg vs.toArray))=some (.bool (!r)):=by
   rw[JS,kC _ _ _ _ _ _ h.hm];simp only[Option.bind_some,binOp,JS,Op.equal,Op.maxDepth];rw[show(10000:Nat)=9998+1+1 from rfl,hv];rfl
 refine⟨?_,?_⟩;show QH _ _ _ _ _ (.agg _) (.agg _)=_;unfold QH;simp only[ht,e1,Option.bind_some];rfl;show QH _ _ _ _ _ (.agg _) (.agg _)=_;unfold QH;simp only[ht,e2,Option.bind_some];rfl
def aBA(x y:Int):Int:=if y > x then y else x
end AI
namespace AI
open Go Go.RowKit
mutual
inductive Rn(k j:Nat)(ρ σ:Nat->Nat):AV->AV->Prop where
 | pl {a:AV} (h:plain a=true):Rn k j ρ σ a a
 | ptr {i off:Nat} (h:i < k):Rn k j ρ σ (.ptr i off) (.ptr (ρ i) off)
 | mp {i:Nat} (h:i < k):Rn k j ρ σ (.mp i) (.mp (ρ i))
 | msl {i off n:Nat} (h:i < k):Rn k j ρ σ (.msl i off n) (.msl (ρ i) off n)
 | row {r sz n:Nat} {cs:List AV} (h:r < j) (hp:BC cs=true):Rn k j ρ σ (.sl (.row r sz) n cs) (.sl (.row (σ r) sz) n cs)
 | agg {cs ds:List AV} (h:Ud k j ρ σ cs ds):Rn k j ρ σ (.agg cs) (.agg ds)
 | Dd {cs ds:List AV} (h:Ud k j ρ σ cs ds):Rn k j ρ σ (.Dd cs) (.Dd ds)
 | fn {f:Fn} {a a' b b':List AV} (h1:Ud k j ρ σ a a') (h2:Ud k j ρ σ b b'):Rn k j ρ σ (.fn f a b) (.fn f a' b')
inductive Ud(k j:Nat)(ρ σ:Nat->Nat):List AV->List AV->Prop where
 | nil:Ud k j ρ σ [] []
 | cons {a b:AV} {l m:List AV} (h:Rn k j ρ σ a b) (t:Ud k j ρ σ l m):Ud k j ρ σ (a::l) (b::m)
end
inductive vW(k j:Nat)(ρ σ:Nat->Nat):AL->AL->Prop where
 | cells {cs ds:List AV} (h:Ud k j ρ σ cs ds):vW k j ρ σ (.cells cs) (.cells ds)
 | map {es:List (Value×AV×Nat)} {cl:Nat} (h:∀e∈es,plain e.2.1=true):vW k j ρ σ (.map es cl) (.map es cl)
def Ud.pl{k j:Nat}{ρ σ:Nat->Nat}:∀{l:List AV},BC l=true->Ud k j ρ σ l l
 | [],_=>.nil
 | a::l,h=>by
   simp only[BC,Bool.and_eq_true] at h;exact .cons (.pl h.1) (Ud.pl h.2)
section
variable {c c':Cx} {w w':World} {k j:Nat} {ρ σ:Nat->Nat}
structure Dn(k j:Nat)(ρ σ:Nat->Nat)(c:Cx)(w:World)(c0:Cx)(w0:World):Prop where
 ZI:∀g i v,LG c w g i v->LG c0 w0 g i v
 CT:∀i g,i < k->c.CT[ρ i]?=some (some g)->c0.CT[i]?=some (some g)
 rows:∀r,r < j->∃x,c.rows[σ r]?=some x/\c0.rows[r]?=some x
structure Up(k j:Nat)(ρ σ:Nat->Nat)(c0:Cx)(w0:World)(c:Cx)(w:World):Prop where
 ZI:∀g i v,LG c0 w0 g i v->LG c w g i v
 CT:∀i g,i < k->c0.CT[i]?=some (some g)->c.CT[ρ i]?=some (some g)
 rows:∀r,r < j->∃x,c.rows[σ r]?=some x/\c0.rows[r]?=some x
mutual
def Rn.down(d:Dn k j ρ σ c w c' w'):∀{a b:AV} {v:Value},Rn k j ρ σ a b->Rp c w b v->Rp c' w' a v:=by
 intro a b v hn h;cases hn with
 | pl hp=>exact h.plain d.ZI hp
 | ptr hi=>cases h with | ptr h1=>exact .ptr (d.CT _ _ hi h1)
 | mp hi=>cases h with | mp h1=>exact .mp (d.CT _ _ hi h1)
 | msl hi=>cases h with | msl hn h1=>exact .msl hn (d.CT _ _ hi h1)
 | @row r sz n cs hr hp =>
   obtain⟨x,hx,hx0⟩:=d.rows r hr;have hl:=(List.getElem?_eq_some_iff.1 hx0).1;cases h with
   | sl0 h0=>exact .sl0 ⟨h0.1,hl⟩
   | KM hn hc ho =>
     refine .KM hn (hc.plain d.ZI hp) ⟨ho.1,ho.2.1,hl,λe=>ho.2.2.2.1 ?_,λg' n' cap' M4 e=>ho.2.2.2.2 g' n' cap' M4 ?_⟩;rw[hx,<- hx0];exact e;rw[hx,<- hx0];exact e
 | agg h1=>cases h with | agg h2=>exact .agg (Ud.down d h1 h2)
 | Dd h1=>cases h with | Dd h2=>exact .Dd (Ud.down d h1 h2)
 | fn h1 h2=>cases h with | fn h3 h4=>exact .fn (Ud.down d h1 h3) (Ud.down d h2 h4)
def Ud.down(d:Dn k j ρ σ c w c' w'):∀{a b:List AV} {v:List Value},Ud k j ρ σ a b->CH c w b v->CH c' w' a v:=by
 intro a b v hn h;cases hn with
 | nil=>cases h;exact .nil
 | cons h1 t=>cases h with | cons h2 t2=>exact .cons (Rn.down d h1 h2) (Ud.down d t t2)
end
mutual
def Rn.up(d:Up k j ρ σ c w c' w'):∀{a b:AV} {v:Value},Rn k j ρ σ a b->Rp c w a v->Rp c' w' b v:=by
 intro a b v hn h;cases hn with
 | pl hp=>exact h.plain d.ZI hp
 | ptr hi=>cases h with | ptr h1=>exact .ptr (d.CT _ _ hi h1)
 | mp hi=>cases h with | mp h1=>exact .mp (d.CT _ _ hi h1)
 | msl hi=>cases h with | msl hn h1=>exact .msl hn (d.CT _ _ hi h1)
 | @row r sz n cs hr hp =>
   obtain⟨x,hx,hx0⟩:=d.rows r hr;have hl:=(List.getElem?_eq_some_iff.1 hx).1;cases h with
   | sl0 h0=>exact .sl0 ⟨h0.1,hl⟩
   | KM hn hc ho =>
     refine .KM hn (hc.plain d.ZI hp) ⟨ho.1,ho.2.1,hl,λe=>ho.2.2.2.1 ?_,λg' n' cap' M4 e=>ho.2.2.2.2 g' n' cap' M4 ?_⟩;rw[hx0,<- hx];exact e;rw[hx0,<- hx];exact e
 | agg h1=>cases h with | agg h2=>exact .agg (Ud.up d h1 h2)
 | Dd h1=>cases h with | Dd h2=>exact .Dd (Ud.up d h1 h2)
 | fn h1 h2=>cases h with | fn h3 h4=>exact .fn (Ud.up d h1 h3) (Ud.up d h2 h4)
def Ud.up(d:Up k j ρ σ c w c' w'):∀{a b:List AV} {v:List Value},Ud k j ρ σ a b->CH c w a v->CH c' w' b v:=by
 intro a b v hn h;cases hn with
 | nil=>cases h;exact .nil
 | cons h1 t=>cases h with | cons h2 t2=>exact .cons (Rn.up d h1 h2) (Ud.up d t t2)
end
def Kp.plain(hv:∀g i v,LG c w g i v->LG c' w' g i v):∀{es:List (Value×AV×Nat)} {fs:List MapEntry},(∀e∈es,AI.plain e.2.1=true)->Kp c w es fs->Kp c' w' es fs:=by
 intro es
 induction es with
 | nil=>intro fs _ h;cases h;exact .nil
 | cons e es ih =>
   intro fs hp h;cases h with | cons h1 t=>exact .cons (h1.plain hv (hp _ List.mem_cons_self)) (ih (λx hx=>hp x (List.mem_cons_of_mem _ hx)) t)
def vW.down(d:Dn k j ρ σ c w c' w'){a b:AL}{o:Obj}(hn:vW k j ρ σ a b)(h:Fh c w b o):Fh c' w' a o:=by
 cases hn with
 | cells h1=>cases h with | Hs ext h2=>exact .Hs ext (Ud.down d h1 h2)
 | map hp=>cases h with | map h2=>exact .map (h2.plain d.ZI hp)
def vW.up(d:Up k j ρ σ c w c' w'){a b:AL}{o:Obj}(hn:vW k j ρ σ a b)(h:Fh c w a o):Fh c' w' b o:=by
 cases hn with
 | cells h1=>cases h with | Hs ext h2=>exact .Hs ext (Ud.up d h1 h2)
 | map hp=>cases h with | map h2=>exact .map (h2.plain d.ZI hp)
end
structure Upd(k j:Nat)(ρ σ:Nat->Nat)(h2:List (Nat×AL))(F2:List (Nat×Nat))(s s2:AS):Prop where
 nx:s2.nx=s.nx
 nr:s2.nr=s.nr
 desc:∀n,Jo s.h n->Jo s2.h n
 get:∀id b,s2.get id=some b->(∃i b0,i < k/\id=ρ i/\look i h2=some b0/\vW k j ρ σ b0 b)\/((∀i,i < k->id≠ρ i)/\s.get id=some b)
 tok:∀q n,DY q s2.F=some n->(∃r,r < j/\q=σ r/\DY r F2=some n)\/((∀r,r < j->q≠σ r)/\DY q s.F=some n)
def RnR(k j:Nat)(ρ σ:Nat->Nat):CR->CR->Prop
 | .ret v,.ret v'=>Rn k j ρ σ v v'
 | .pan v,.pan v'=>Rn k j ρ σ v v'
 | _,_=>False
def awP{P:Program}{G:A8}(hG:∀g cs,G g=some cs->BC cs=true){f:FuncId}{args XC:List AV}{r r':CR}{hm h2:List (Nat×AL)}{k j:Nat}{Fm F2:List (Nat×Nat)}(h:Sound P G (.call f args ⟨hm,k,Fm,j⟩ r ⟨h2,k,F2,j⟩))(hd:Jo hm k)
   (ρ σ:Nat->Nat) (aKV:∀i i',i < k->i' < k->ρ i=ρ i'->i=i') (atX:∀i i',i < j->i' < j->σ i=σ i'->i=i') (GD:Ud k j ρ σ args XC)
   {s s2:AS} (OQ:∀i b,i < k->look i hm=some b->∃b',s.get (ρ i)=some b'/\vW k j ρ σ b b')
   (RC:∀cx w vs,St G cx w s->CH cx w XC vs->∀i,i < k->∃g,cx.CT[ρ i]?=some (some g))
   (aDP:∀q n,q < j->DY q Fm=some n->DY (σ q) s.F=some n) (aDO:∀q,q < j->∃n,DY q Fm=some n) (hFm:∀q n,DY q Fm=some n->q < j)
   (hr:RnR k j ρ σ r r')
   (hu:Upd k j ρ σ h2 F2 s s2):Sound P G (.call f XC s r' s2):=by
 intro cx w vs hs ha;have hph:=RC cx w vs hs ha
 have hg:∀i:Nat,∃g,i < k->cx.CT[ρ i]?=some (some g):=λi=>by
   by_cases hi:i < k;obtain⟨g,hg⟩:=hph i hi;exact⟨g,λ_=>hg⟩;exact⟨0,λh=>absurd h hi⟩
 obtain⟨gs,hgs⟩:=Classical.axiomOfChoice hg
 have hrw:∀q:Nat,∃x,q < j->cx.rows[σ q]?=some x:=λq=>by
   by_cases hq:q < j;obtain⟨n,hn⟩:=aDO q hq;rcases hs.IZ _ _ (aDP q n hq hn) with ⟨h1,_⟩ | ⟨g,cap,sz,h1⟩
   exact⟨_,λ_=>h1⟩;exact⟨_,λ_=>h1⟩;exact⟨.gone,λh=>absurd h hq⟩
 obtain⟨rw,hrw⟩:=Classical.axiomOfChoice hrw;have oI:∀i,i < k->some (gs i)∈cx.CT:=λi hi=>List.mem_of_getElem? (hgs i hi);have hgi:∀i i',i < k->i' < k->gs i=gs i'->i=i':=λi i' hi O7 e=>aKV i i' hi O7 (hs.nodup _ _ _ (hgs i hi) (by rw[e];exact hgs i' O7));let K:Nat->Prop:=λq=>(∃i,i < k/\q=gs i)\/∃r n cap sz,r < j/\cx.rows[σ r]?=some (.QW q n cap sz);let c0:Cx:=⟨0,(List.range k).map λi=>some (gs i),(List.range j).map rw,λq i=>¬K q/\cx.ZF q i⟩
 have V9:∀(i g:Nat),c0.CT[i]?=some (some g)↔i < k/\g=gs i:=by
   intro i g;show((List.range k).map λi=>some (gs i))[i]?=some (some g)↔_;rw[List.getElem?_map];by_cases hi:i < k;rw[List.getElem?_range hi];simp[hi,eq_comm];rw[List.getElem?_eq_none (by simp;omega)];simp[hi]
 have sR:∀g,some g∈c0.CT->∃i,i < k/\g=gs i:=by
   intro g Ya;obtain⟨i,hi,e⟩:=List.mem_map.1 Ya;exact⟨i,List.mem_range.1 hi,(Option.some.inj e).symm⟩
 have Z5:∀(q:Nat) x,c0.rows[q]?=some x->q < j/\cx.rows[σ q]?=some x:=by
   intro q x hx;have hx:((List.range j).map rw)[q]?=some x:=hx;have hl:=(List.getElem?_eq_some_iff.1 hx).1;simp at hl;rw[List.getElem?_map,List.getElem?_range hl] at hx;simp at hx;subst hx;exact⟨hl,hrw q hl⟩
 have oK:∀q,q < j->c0.rows[q]?=some (rw q):=by
   intro q hq;show((List.range j).map rw)[q]?=some (rw q);rw[List.getElem?_map,List.getElem?_range hq];rfl
 have aeK:c0.rows.length=j:=by show((List.range j).map rw).length=j;simp
 have IB:∀g i x,LG cx w g i x->LG c0 w g i x:=by
   intro g i x hx;refine⟨hx.1,λGG=>?_,hx.2.2⟩;rcases GG with GG | ⟨r,n,cap,sz,hr,h1,h2⟩ | GG
   obtain⟨i',O7,rfl⟩:=sR g GG;exact hx.2.1 (.inl (oI i' O7));exact hx.2.1 (.inr (.inl ⟨σ r,n,cap,sz,(Z5 _ _ hr).2,h1,h2⟩));exact hx.2.1 GG.2
 have hdn:Dn k j ρ σ cx w c0 w:=⟨IB,λi g hi Ya=>by
   rw[V9];rw[hgs i hi] at Ya;cases Ya;exact⟨hi,rfl⟩,λq hq=>⟨rw q,hrw q hq,oK q hq⟩⟩
 have FW:St G c0 w ⟨hm,k,Fm,j⟩:=by
   refine⟨by simp[c0],hd,λi i' g h1 h2=>?_,λg _=>Nat.zero_le _,λid g b h1 h2=>?_,aeK.symm,λq g n cap sz hq=>?_,λq n hq=>?_,λg Ya=>?_,(λq i hb=>hs.TP hb.2),λq q' g n cap sz n' cap' M4 h1 h2=>?_,(λg cs Ya=>Bc.plain IB (hG g cs Ya) (hs.Mp g cs Ya)),Nat.zero_le _⟩;obtain⟨hi,e1⟩:=(V9 i g).1 h1;obtain⟨O7,e2⟩:=(V9 i' g).1 h2;exact hgi i i' hi O7 (e1.symm.trans e2);obtain⟨hi,rfl⟩:=(V9 id g).1 h1;obtain⟨b',Wv,hn⟩:=OQ id b hi h2;obtain⟨o,ho,hb⟩:=hs.box (ρ id) (gs id) _ (hgs id hi) Wv;exact⟨o,ho,hn.down hdn hb⟩;obtain⟨hq1,Zh⟩:=Z5 _ _ hq;obtain⟨_,_,a3,a4,a5⟩:=hs.row _ _ _ _ _ Zh;refine⟨λi hb=>hb.1 (.inr ⟨q,n,cap,sz,hq1,Zh⟩),Nat.zero_le _,λhm'=>?_,a4,a5⟩;obtain⟨i,hi,rfl⟩:=sR g hm';exact a3 (oI i hi);have hlt:=hFm q n hq;have:=hs.IZ _ _ (aDP q n hlt hq);rw[hrw q hlt] at this;rw[oK q hlt];exact this;obtain⟨i,hi,rfl⟩:=sR g Ya;exact hs.Mu (oI i hi);obtain⟨a1,a2⟩:=Z5 _ _ h1;obtain⟨b1,b2⟩:=Z5 _ _ h2;exact atX _ _ a1 b1 (hs.IH _ _ _ _ _ _ _ _ _ a2 b2)
 refine(h c0 w vs FW (GD.down hdn ha)).mono ?_;rintro e w' ⟨c',hx,Mq,iQ⟩
 have sS:c'.CT=c0.CT:=by
   obtain⟨t,ht⟩:=hx.CT;have h1:c'.CT.length=k:=Mq.len.symm;have h2:c0.CT.length=k:=by simp[c0]
   rw[<- ht,List.length_append,h2] at h1;have:t=[]:=List.eq_nil_of_length_eq_zero (by omega);rw[<- ht,this,List.append_nil]
 have axN:c'.rows.length=j:=Mq.IN.symm;have aeL:∀q,q < j->∃y,c'.rows[q]?=some y:=λq hq=>⟨_,List.getElem?_eq_getElem (by rw[axN];exact hq)⟩
 have hle:∀q y,q < j->c'.rows[q]?=some y->Kq (rw q) y:=by
   intro q y hq hy;obtain⟨x,h1,h2⟩:=hx.rows q y (by rw[aeK];exact hq) hy;rw[oK q hq] at h1;cases h1;exact h2
 let kL:List Rw:=(List.range cx.rows.length).map λq=>open Classical in if hq:∃r,r < j/\σ r=q then c'.rows.getD (Classical.choose hq) .gone else cx.rows.getD q .gone
 have aeM:kL.length=cx.rows.length:=by simp[kL]
 have Zq:∀r,r < j->kL[σ r]?=c'.rows[r]?:=by
   intro r hr;have hl:=(List.getElem?_eq_some_iff.1 (hrw r hr)).1;show((List.range cx.rows.length).map _)[σ r]?=_;rw[List.getElem?_map,List.getElem?_range hl];simp only[Option.map_some];have hq:∃r',r' < j/\σ r'=σ r:=⟨r,hr,rfl⟩;rw[dif_pos hq];have hc:=Classical.choose_spec hq;have:Classical.choose hq=r:=atX _ _ hc.1 hr hc.2;rw[this];obtain⟨y,hy⟩:=aeL r hr;rw[List.getD_eq_getElem?_getD,hy];rfl
 have cW:∀q,(∀r,r < j->q≠σ r)->kL[q]?=cx.rows[q]?:=by
   intro q hq;by_cases hl:q < cx.rows.length;show((List.range cx.rows.length).map _)[q]?=_;rw[List.getElem?_map,List.getElem?_range hl];simp only[Option.map_some];rw[dif_neg (by rintro⟨r,h1,h2⟩;exact hq r h1 h2.symm),List.getD_eq_getElem?_getD,List.getElem?_eq_getElem hl];rfl;rw[List.getElem?_eq_none (by omega),List.getElem?_eq_none (by omega)]
 have S4:∀q:Nat,(∃r,r < j/\q=σ r)\/∀r,r < j->q≠σ r:=λq=>by
   by_cases hq:∃r,r < j/\q=σ r;exact .inl hq;exact .inr λr h1 h2=>hq ⟨r,h1,h2⟩
 have Lu:∀r g n cap sz,r < j->c'.rows[r]?=some (.QW g n cap sz)->(∃r0 n0 Pf lF,r0 < j/\cx.rows[σ r0]?=some (.QW g n0 Pf lF))\/w.heap.size<=g:=by
   intro r g n cap sz hr hy;rcases hx.ZB _ _ _ _ _ hy with ⟨r0,n0,Pf,lF,h1⟩ | h1
   obtain⟨h2,h3⟩:=Z5 _ _ h1;exact .inl ⟨r0,n0,Pf,lF,h2,h3⟩;exact .inr h1
 have N3:=hx.below
 have Tu:Q9 w w' K:=⟨N3.os,N3.tape,N3.output,N3.size,λq hq hne=>hx.G3 q hq (λhm'=>hne (.inl (sR q hm'))) (λr n cap sz hr=>hne (by
   obtain⟨h1,h2⟩:=Z5 _ _ hr;exact .inr ⟨r,n,cap,sz,h1,h2⟩))⟩
 have hKb:∀q,K q->cx.base<=q:=by
   rintro q (⟨i,hi,rfl⟩ | ⟨r,n,cap,sz,hr,h1⟩);exact hs.low _ (oI i hi);exact(hs.row _ _ _ _ _ h1).2.1
 let c1:Cx:=⟨cx.base,cx.CT,kL,cx.bad⟩
 have iX:∀g i x,LG c' w' g i x->LG c1 w' g i x:=by
   intro g i x hv;refine⟨hv.1,λGG=>hv.2.1 ?_,hv.2.2⟩;have KH:¬K g->cx.ZF g i->c'.ZF g i:=λh1 h2=>.inr (.inr (by rw[hx.bad];exact⟨h1,h2⟩));rcases GG with GG | ⟨q,n,cap,sz,hq,h1,h2⟩ | GG
   by_cases hK:K g;rcases hK with ⟨i',O7,rfl⟩ | ⟨r,n,cap,sz,hr,h1⟩
   refine .inl ?_;rw[sS];exact List.mem_of_getElem? ((V9 i' (gs i')).2 ⟨O7,rfl⟩);exact absurd GG (hs.row _ _ _ _ _ h1).2.2.1;exact KH hK (.inl GG);rcases S4 q with ⟨r,hr,rfl⟩ | mQ
   simp only[c1] at hq;rw[Zq r hr] at hq;exact .inr (.inl ⟨r,n,cap,sz,hq,h1,h2⟩);simp only[c1] at hq;rw[cW q mQ] at hq;refine KH ?_ (.inr (.inl ⟨q,n,cap,sz,hq,h1,h2⟩));rintro(⟨i',O7,rfl⟩ | ⟨r,n',cap',M4,hr,h3⟩);exact(hs.row _ _ _ _ _ hq).2.2.1 (oI i' O7);exact mQ r hr (hs.IH _ _ _ _ _ _ _ _ _ hq h3);by_cases hK:K g;rcases hK with ⟨i',O7,rfl⟩ | ⟨r,n,cap,sz,hr,h1⟩
   refine .inl ?_;rw[sS];exact List.mem_of_getElem? ((V9 i' (gs i')).2 ⟨O7,rfl⟩);exact absurd GG ((hs.row _ _ _ _ _ h1).1 i);exact KH hK (.inr (.inr GG))
 have ext:Ext cx w c1 w':=by
   refine⟨List.prefix_refl _,by simp[c1,aeM],λq y hq hy=>?_,λg i x hv=>iX g i x (hx.ZI g i x (IB g i x hv)),Tu.below hs.PV hKb,rfl,rfl,λ_ h=>.inl h,λq g n cap sz hq=>?_,λq hq hp hr=>Tu.block q hq ?_⟩;rcases S4 q with ⟨r,hr,rfl⟩ | mQ
   simp only[c1] at hy;rw[Zq r hr] at hy;exact⟨rw r,hrw r hr,hle r y hr hy⟩;simp only[c1] at hy;rw[cW q mQ] at hy;exact⟨y,hy,Kq.refl y⟩;rcases S4 q with ⟨r,hr,rfl⟩ | mQ
   simp only[c1] at hq;rw[Zq r hr] at hq;rcases Lu _ _ _ _ _ hr hq with ⟨r0,n0,Pf,lF,_,h1⟩ | h1
   exact .inl ⟨_,_,_,_,h1⟩;exact .inr h1;simp only[c1] at hq;rw[cW q mQ] at hq;exact .inl ⟨_,_,_,_,hq⟩;rintro(⟨i',O7,rfl⟩ | ⟨r,n',cap',M4,WY,h3⟩);exact hp (oI i' O7);exact hr _ _ _ _ h3
 have hup:Up k j ρ σ c' w' c1 w':=⟨iX,λi g hi Ya=>by
   rw[sS,V9] at Ya;obtain⟨_,rfl⟩:=Ya;exact hgs i hi,λq hq=>by
   obtain⟨y,hy⟩:=aeL q hq;exact⟨y,by simp only[c1];rw[Zq q hq];exact hy,hy⟩⟩
 have st1:St G c1 w' s2:=by
   refine⟨by rw[hu.nx,hs.len],by rw[hu.nx];exact hu.desc _ hs.desc,hs.nodup,hs.low,λid g b h1 h2=>?_,by rw[hu.nr,hs.IN];exact aeM.symm,λq g n cap sz hq=>?_,λq n hq=>?_,λg Ya=>Nat.lt_of_lt_of_le (hs.Md g Ya) Tu.size,λg i hb=>Nat.lt_of_lt_of_le (hs.Mn g i hb) Tu.size,λq q' g n cap sz n' cap' M4 h1 h2=>?_,λg cs Ya=>(hs.Mp g cs Ya).mono ext,Nat.le_trans hs.PV Tu.size⟩;rcases hu.get id b h2 with ⟨i,b0,hi,rfl,hb0,hn⟩ | ⟨hne,h3⟩
   obtain⟨o,ho,hb⟩:=Mq.box i (gs i) b0 (by rw[sS];exact(V9 i (gs i)).2 ⟨hi,rfl⟩) hb0;have h1:cx.CT[ρ i]?=some (some g):=h1;rw[hgs i hi] at h1;cases h1;exact⟨o,ho,hn.up hup hb⟩;obtain⟨o,ho,hb⟩:=hs.box id g b h1 h3;refine⟨o,?_,hb.mono ext⟩;rw[Tu.block g (Array.getElem?_eq_some_iff.1 ho).1 ?_];exact ho;rintro(⟨i',O7,rfl⟩ | ⟨r,n',cap',M4,WY,h4⟩);exact hne i' O7 (hs.nodup _ _ _ h1 (hgs i' O7));exact(hs.row _ _ _ _ _ h4).2.2.1 (List.mem_of_getElem? h1);simp only[c1] at hq ⊢;rcases S4 q with ⟨r,WY,rfl⟩ | mQ
   rw[Zq r WY] at hq;obtain⟨a1,a2,a3,a4,a5⟩:=Mq.row _ _ _ _ _ hq;rcases Lu _ _ _ _ _ WY hq with ⟨r0,n0,Pf,lF,_,h4⟩ | h4
   obtain⟨b1,b2,b3,_⟩:=hs.row _ _ _ _ _ h4;exact⟨b1,b2,b3,a4,a5⟩;refine⟨λi hb=>?_,Nat.le_trans hs.PV h4,λhm'=>?_,a4,a5⟩;have:=hs.Mn _ _ hb;omega;have:=hs.Mu hm';omega;rw[cW q mQ] at hq;obtain⟨a1,a2,a3,a4,vs',T,a5,a6⟩:=hs.row _ _ _ _ _ hq;refine⟨a1,a2,a3,a4,vs',T,?_,a6⟩;rw[Tu.block g (Array.getElem?_eq_some_iff.1 a5).1 ?_];exact a5;rintro(⟨i',O7,rfl⟩ | ⟨r,n',cap',M4,WY,h4⟩);exact a3 (oI i' O7);exact mQ r WY (hs.IH _ _ _ _ _ _ _ _ _ hq h4);simp only[c1];rcases hu.tok q n hq with ⟨r,WY,rfl,h3⟩ | ⟨mQ,h3⟩
   rw[Zq r WY];exact Mq.IZ r n h3;rw[cW q mQ];exact hs.IZ q n h3;simp only[c1] at h1 h2
   have key:∀r q,r < j->(∀r',r' < j->q≠σ r')->∀n cap sz n' cap' M4,c'.rows[r]?=some (.QW g n cap sz)->cx.rows[q]?=some (.QW g n' cap' M4)->False:=by
     intro r q WY mQ n cap sz n' cap' M4 e1 e2;rcases Lu _ _ _ _ _ WY e1 with ⟨r0,n0,Pf,lF,sU,h4⟩ | h4
     exact mQ r0 sU (hs.IH _ _ _ _ _ _ _ _ _ e2 h4);have:=hs.Mx e2;omega
   rcases S4 q with ⟨r,WY,rfl⟩ | hq1<;>rcases S4 q' with ⟨r2,hr2,rfl⟩ | Zh
   rw[Zq r WY] at h1;rw[Zq r2 hr2] at h2;rw[Mq.IH _ _ _ _ _ _ _ _ _ h1 h2];rw[Zq r WY] at h1;rw[cW q' Zh] at h2;exact(key r q' WY Zh _ _ _ _ _ _ h1 h2).elim;rw[cW q hq1] at h1;rw[Zq r2 hr2] at h2;exact(key r2 q hr2 hq1 _ _ _ _ _ _ h2 h1).elim;rw[cW q hq1] at h1;rw[cW q' Zh] at h2;exact hs.IH _ _ _ _ _ _ _ _ _ h1 h2
 refine⟨c1,ext,st1,?_⟩;cases r with
 | ret v =>
   cases r' with
   | ret v' =>
     obtain⟨u,rfl,hu'⟩:=iQ;exact⟨u,rfl,Rn.up hup hr hu'⟩
   | pan v'=>exact hr.elim
 | pan v =>
   cases r' with
   | ret v'=>exact hr.elim
   | pan v' =>
     obtain⟨u,rfl,hu'⟩:=iQ;exact⟨u,rfl,Rn.up hup hr hu'⟩
end AI
namespace AI
open Go Go.RowKit
def IW:List AL->Nat->List (Nat×AL)->List (Nat×AL)
 | [],_,acc=>acc
 | b::l,n,acc=>IW l (n+1) ((n,b)::acc)
def qS:List Nat->Nat->List (Nat×Nat)
 | [],_=>[]
 | k::l,n=>(n,k)::qS l (n+1)
def pA{M:List AL}:∀{n:Nat} {acc:List (Nat×AL)} {i:Nat} {b:AL},Jo acc n->look i (IW M n acc)=some b->(n<=i/\M[i - n]?=some b)\/look i acc=some b:=by
 induction M with
 | nil=>intro n acc i b _ h;exact .inr h
 | cons x M ih =>
   intro n acc i b hd h;rcases ih (n:=n+1) (acc:=(n,x)::acc) ⟨Nat.lt_succ_self n,hd⟩ h with ⟨h1,h2⟩ | h1
   refine .inl ⟨by omega,?_⟩;rw[show i - n=(i - (n+1))+1 by omega];exact h2;simp only[look] at h1;split at h1;rename_i hb;have:=beq_true hb;subst this;cases h1;exact .inl ⟨Nat.le_refl _,by simp⟩;exact .inr h1
def nL{M:List AL}:∀{n:Nat} {acc:List (Nat×AL)},Jo acc n->Jo (IW M n acc) (n+M.length):=by
 induction M with
 | nil=>intro n acc h;exact h
 | cons x M ih =>
   intro n acc h;have:=ih (n:=n+1) (acc:=(n,x)::acc) ⟨Nat.lt_succ_self n,h⟩;rw[List.length_cons,show n+(M.length+1)=n+1+M.length by omega];exact this
def Vz{T:List Nat}:∀{n r k:Nat},DY r (qS T n)=some k->n<=r/\T[r - n]?=some k:=by
 induction T with
 | nil=>intro n r k h;cases h
 | cons x T ih =>
   intro n r k h;simp only[qS,DY] at h;split at h;rename_i hb;have:=beq_true hb;subst this;cases h;exact⟨Nat.le_refl _,by simp⟩;obtain⟨h1,h2⟩:=ih h;refine⟨by omega,?_⟩;rw[show r - n=(r - (n+1))+1 by omega];exact h2
def aT{T:List Nat}:∀{n r:Nat},n<=r->r - n < T.length->∃k,DY r (qS T n)=some k:=by
 induction T with
 | nil=>intro n r _ h;simp at h
 | cons x T ih =>
   intro n r h1 h2;simp only[qS,DY];split;exact⟨_,rfl⟩;rename_i hb;have:=beq_false hb;exact ih (by omega) (by simp at h2;omega)
inductive Xs(k j:Nat)(ρ σ:Nat->Nat):List AL->List (Nat×AL)->Prop where
 | nil:Xs k j ρ σ [] []
 | cons {b b':AL} {i:Nat} {l:List AL} {m:List (Nat×AL)} (h:vW k j ρ σ b b') (t:Xs k j ρ σ l m):Xs k j ρ σ (b::l) ((i,b')::m)
def Xs.len{k j:Nat}{ρ σ:Nat->Nat}{l:List AL}{m:List (Nat×AL)}(h:Xs k j ρ σ l m):l.length=m.length:=by
 induction h with
 | nil=>rfl
 | cons _ _ ih=>simp[ih]
def Xs.get{k j:Nat}{ρ σ:Nat->Nat}{l:List AL}{m:List (Nat×AL)}(h:Xs k j ρ σ l m):∀{i:Nat} {b:AL},l[i]?=some b->∃e,m[i]?=some e/\vW k j ρ σ b e.2:=by
 induction h with
 | nil=>intro i b hb;simp at hb
 | cons h _ ih =>
   intro i b hb;cases i with
   | zero=>simp at hb;subst hb;exact⟨_,rfl,h⟩
   | succ i=>exact ih (by simpa using hb)
def Xs.aKB{k j:Nat}{ρ σ:Nat->Nat}{l:List AL}{m:List (Nat×AL)}(h:Xs k j ρ σ l m):∀{i:Nat} {e:Nat×AL},m[i]?=some e->∃b,l[i]?=some b/\vW k j ρ σ b e.2:=by
 induction h with
 | nil=>intro i b hb;simp at hb
 | cons h _ ih =>
   intro i b hb;cases i with
   | zero=>simp at hb;subst hb;exact⟨_,rfl,h⟩
   | succ i=>exact ih (by simpa using hb)
def lL:∀(l:List (Nat×AL)) (s:AS) (id:Nat) (b:AL),(s.VO l).get id=some b->(∃e∈l,e.1=id/\e.2=b)\/((∀e∈l,e.1≠id)/\s.get id=some b)
 | [],s,id,b,h=>.inr ⟨(λe he=>by cases he),h⟩
 | e::l,s,id,b,h=>by
   rcases lL l (s.put e.1 e.2) id b h with ⟨x,hx,h1⟩ | ⟨h1,h2⟩
   exact .inl ⟨x,List.mem_cons_of_mem _ hx,h1⟩;rcases Y2 h2 with ⟨h3,h4⟩ | ⟨h3,h4⟩
   exact .inl ⟨e,List.mem_cons_self,h3.symm,h4.symm⟩;refine .inr ⟨λx hx=>?_,h4⟩;rcases List.mem_cons.1 hx with rfl | hx
   exact λe=>h3 e.symm;exact h1 x hx
def aX:∀(l:List (Nat×AL)) (s:AS),(s.VO l).nx=s.nx/\(s.VO l).nr=s.nr/\(s.VO l).F=s.F/\∀n,Jo s.h n->Jo (s.VO l).h n
 | [],s=>⟨rfl,rfl,rfl,λ_ h=>h⟩
 | e::l,s=>by
   obtain⟨h1,h2,h3,h4⟩:=aX l (s.put e.1 e.2);exact⟨h1,h2,h3,λn h=>h4 n (Y1 h)⟩
def Z1:∀(l:List (Nat×Nat)) (s:AS) (q n:Nat),DY q (s.S3 l).F=some n->(∃e∈l,e.1=q/\e.2=n)\/((∀e∈l,e.1≠q)/\DY q s.F=some n)
 | [],s,q,n,h=>.inr ⟨(λe he=>by cases he),h⟩
 | e::l,s,q,n,h=>by
   rcases Z1 l _ q n h with ⟨x,hx,h1⟩ | ⟨h1,h2⟩
   exact .inl ⟨x,List.mem_cons_of_mem _ hx,h1⟩;rcases aM h2 with ⟨h3,h4,_⟩ | ⟨h3,h4⟩
   exact .inl ⟨e,List.mem_cons_self,h3.symm,h4.symm⟩;refine .inr ⟨λx hx=>?_,h4⟩;rcases List.mem_cons.1 hx with rfl | hx
   exact λe=>h3 e.symm;exact h1 x hx
def X2:∀(l:List (Nat×Nat)) (s:AS),(s.S3 l).nx=s.nx/\(s.S3 l).nr=s.nr/\(s.S3 l).h=s.h
 | [],s=>⟨rfl,rfl,rfl⟩
 | e::l,s=>X2 l _
def X1:∀{l:List (Nat×AL)} {s:AS},X0 s l=N0 l->∀{i:Nat} {e:Nat×AL},l[i]?=some e->s.get e.1=some e.2
 | [],s,_,i,e,he=>by simp at he
 | x::l,s,h,i,e,he=>by
   simp only[X0,N0,List.cons.injEq] at h;cases i with
   | zero=>simp at he;subst he;exact h.1
   | succ i=>exact X1 h.2 (by simpa using he)
def iG:∀{l:List (Nat×Nat)} {F:List (Nat×Nat)},ZX F l=OD l->∀{i:Nat} {e:Nat×Nat},l[i]?=some e->DY e.1 F=some e.2
 | [],s,_,i,e,he=>by simp at he
 | x::l,s,h,i,e,he=>by
   simp only[ZX,OD,List.cons.injEq] at h;cases i with
   | zero=>simp at he;subst he;exact h.1
   | succ i=>exact iG h.2 (by simpa using he)
mutual
inductive Occ(id:Nat):AV->Prop where
 | ptr {off:Nat}:Occ id (.ptr id off)
 | mp:Occ id (.mp id)
 | msl {off n:Nat}:Occ id (.msl id off n)
 | agg {cs:List AV} (h:Ub id cs):Occ id (.agg cs)
 | fn1 {f:Fn} {a b:List AV} (h:Ub id a):Occ id (.fn f a b)
 | fn2 {f:Fn} {a b:List AV} (h:Ub id b):Occ id (.fn f a b)
inductive Ub(id:Nat):List AV->Prop where
 | here {a:AV} {l:List AV} (h:Occ id a):Ub id (a::l)
 | there {a:AV} {l:List AV} (h:Ub id l):Ub id (a::l)
end
mutual
def Occ.CT{c:Cx}{w:World}{id:Nat}:∀{a:AV} {v:Value},Occ id a->Rp c w a v->∃g,c.CT[id]?=some (some g):=by
 intro a v ho h;cases ho with
 | ptr=>cases h with | ptr h1=>exact⟨_,h1⟩
 | mp=>cases h with | mp h1=>exact⟨_,h1⟩
 | msl=>cases h with | msl hn h1=>exact⟨_,h1⟩
 | agg h1=>cases h with | agg h2=>exact Ub.CT h1 h2
 | fn1 h1=>cases h with | fn h2 h3=>exact Ub.CT h1 h2
 | fn2 h1=>cases h with | fn h2 h3=>exact Ub.CT h1 h3
def Ub.CT{c:Cx}{w:World}{id:Nat}:∀{a:List AV} {v:List Value},Ub id a->CH c w a v->∃g,c.CT[id]?=some (some g):=by
 intro a v ho h;cases ho with
 | here h1=>cases h with | cons h2 _=>exact Occ.CT h1 h2
 | there h1=>cases h with | cons _ h2=>exact Ub.CT h1 h2
end
inductive Rch(args:List AV)(pre:List (Nat×AL)):Nat->Prop where
 | arg {id:Nat} (h:Ub id args):Rch args pre id
 | box {i id p:Nat} {cs:List AV} (h:Rch args pre i) (hp:pre[p]?=some (i,.cells cs)) (ho:Ub id cs):Rch args pre id
def Rch.CT{G:A8}{args:List AV}{pre:List (Nat×AL)}{s:AS}(hb:X0 s pre=N0 pre){cx:Cx}{w:World}{vs:List Value}(hs:St G cx w s)(ha:CH cx w args vs){id:Nat}(h:Rch args pre id):∃g,cx.CT[id]?=some (some g):=by
 induction h with
 | arg h=>exact h.CT ha
 | box h hp ho ih =>
   obtain⟨g,hg⟩:=ih;obtain⟨o,_,xE⟩:=hs.box _ g _ hg (X1 hb hp);cases xE with
   | Hs ext hr=>exact ho.CT hr
def KU{β:Type}(l:List (Nat×β))(i:Nat):Nat:=match l[i]? with
 | some e=>e.1
 | none=>0
def KV{β:Type}{l:List (Nat×β)}{i:Nat}{e:Nat×β}(h:l[i]?=some e):KU l i=e.1:=by unfold KU;rw[h]
def keys{β:Type}(l:List (Nat×β)):List Nat:=l.map (·.1)
def Z7{β:Type}{l:List (Nat×β)}(h:(keys l).Nodup){i i':Nat}(hi:i < l.length)(O7:i' < l.length)(e:KU l i=KU l i'):i=i':=by
 have h1:(keys l)[i]?=some (KU l i):=by
   unfold keys;rw[List.getElem?_map,List.getElem?_eq_getElem hi,KV (List.getElem?_eq_getElem hi)];rfl
 have h2:(keys l)[i']?=some (KU l i'):=by
   unfold keys;rw[List.getElem?_map,List.getElem?_eq_getElem O7,KV (List.getElem?_eq_getElem O7)];rfl
 rw[<- e] at h2;exact yB h h1 h2
def P9{β β':Type}{l:List (Nat×β)}{m:List (Nat×β')}(h:keys l=keys m)(i:Nat):KU l i=KU m i:=by
 have h1:=congrArg (λx=>x[i]?) h;unfold keys at h1;simp only[List.getElem?_map] at h1;unfold KU;cases hl:l[i]?<;>cases hm:m[i]?<;>rw[hl,hm] at h1<;>simp at h1<;>simp[h1]
def Hu{P:Program}{G:A8}(hG:∀g cs,G g=some cs->BC cs=true){f:FuncId}{args XC:List AV}{r r':CR}{M M2:List AL}{T T2:List Nat}(pre Qy:List (Nat×AL))(tp tu:List (Nat×Nat)){k j:Nat}
   (h:Sound P G (.call f args ⟨IW M 0 [],k,qS T 0,j⟩ r ⟨IW M2 0 [],k,qS T2 0,j⟩))
   (hk:M.length=k) (hj:T.length=j) (hj2:T2.length=j)
   (hku:keys Qy=keys pre) (hkt:keys tu=keys tp) (Pm:(keys pre).Nodup) (Pn:(keys tp).Nodup)
   (htp:tp.map (·.2)=T) (htu:tu.map (·.2)=T2)
   (hb:Xs k j (KU pre) (KU tp) M pre) (hb2:Xs k j (KU pre) (KU tp) M2 Qy)
   (GD:Ud k j (KU pre) (KU tp) args XC)
   (hr:RnR k j (KU pre) (KU tp) r r')
   (aLJ:∀e∈pre,Rch XC pre e.1):Cd.ok P G (.E6 f XC r' pre tp Qy tu):=by
 intro s hgb hgf;have hpl:pre.length=k:=by rw[<- hb.len,hk]
 have htl:tp.length=j:=by rw[<- hj,<- htp,List.length_map]
 have hul:Qy.length=k:=by
   have:=congrArg List.length hku;simp only[keys,List.length_map] at this;omega
 have aOM:tu.length=j:=by rw[<- hj2,<- htu,List.length_map]
 refine awP hG h (by have:=nL (M:=M) (n:=0) (acc:=[]) trivial;rw[Nat.zero_add,hk] at this;exact this) (KU pre) (KU tp) (λi i' hi O7 e=>Z7 Pm (by omega) (by omega) e) (λi i' hi O7 e=>Z7 Pn (by omega) (by omega) e) GD (s:=s) (λi b hi hl=>?_) (λcx w vs hs ha i hi=>?_) (λq n hq hl=>?_) (λq hq=>?_) (λq n hl=>?_) hr ?_;rcases pA (acc:=[]) trivial hl with ⟨_,h1⟩ | h1
 rw[Nat.sub_zero] at h1;obtain⟨e,he,hn⟩:=hb.get h1;exact⟨e.2,by rw[KV he];exact X1 hgb he,hn⟩;cases h1;have he:pre[i]?=some pre[i]:=List.getElem?_eq_getElem (by omega);rw[KV he];exact(aLJ _ (List.mem_of_getElem? he)).CT hgb hs ha
 · obtain⟨_,h1⟩:=Vz hl
   rw[Nat.sub_zero,<- htp,List.getElem?_map] at h1;cases he:tp[q]? with
   | none=>rw[he] at h1;cases h1
   | some e =>
     rw[he] at h1;simp at h1;rw[KV he,<- h1];exact iG hgf he
 exact aT (Nat.zero_le _) (by omega);obtain⟨_,h1⟩:=Vz hl;have:=(List.getElem?_eq_some_iff.1 h1).1;omega
 · obtain⟨a1,a2,a3,a4⟩:=aX Qy s
   obtain⟨b1,b2,b3⟩:=X2 tu (s.VO Qy);refine⟨by rw[b1,a1],by rw[b2,a2],λn hd=>by rw[b3];exact a4 n hd,λid b hg=>?_,λq n hq=>?_⟩
   · have hg:(s.VO Qy).get id=some b:=by
       unfold AS.get at hg ⊢;rw[b3] at hg;exact hg
     rcases lL Qy s id b hg with ⟨e,he,rfl,rfl⟩ | ⟨h1,h2⟩
     · obtain⟨i,hi⟩:=List.mem_iff_getElem?.1 he
       have hil:=(List.getElem?_eq_some_iff.1 hi).1;obtain⟨b0,hb0,hn⟩:=hb2.aKB hi;refine .inl ⟨i,b0,by omega,by rw[<- P9 hku,KV hi],?_,hn⟩
       have:∀(M:List AL) (n:Nat) (acc:List (Nat×AL)) (i:Nat) (b:AL),M[i]?=some b->(∀e∈acc,e.1 < n)->look (n+i) (IW M n acc)=some b:=by
         intro M
         induction M with
         | nil=>intro n acc i b h;simp at h
         | cons x M ih =>
           intro n acc i b h iM;cases i with
           | succ i =>
             have:=ih (n+1) ((n,x)::acc) i b (by simpa using h) (λe he=>by
               rcases List.mem_cons.1 he with rfl | he
               exact Nat.lt_succ_self _;have:=iM e he;omega)
             rw[show n+(i+1)=n+1+i by omega];exact this
           | zero =>
             simp at h;subst h;simp only[IW,Nat.add_zero]
             have aDM:∀(M:List AL) (n':Nat) (acc:List (Nat×AL)),n < n'->look n (IW M n' acc)=look n acc:=by
               intro M
               induction M with
               | nil=>intro n' acc _;rfl
               | cons y M oR =>
                 intro n' acc hlt;simp only[IW];rw[oR (n'+1) _ (by omega)];simp only[look]
                 have:Nat.beq n' n=false:=by
                   cases hq:Nat.beq n' n with
                   | false=>rfl
                   | true=>have:=beq_true hq;omega
                 rw[this]
             rw[aDM M (n+1) _ (by omega)];simp only[look];rw[show Nat.beq n n=true from Nat.beq_refl n]
       have:=this M2 0 [] i b0 hb0 (λe he=>by cases he);rwa[Nat.zero_add] at this
     refine .inr ⟨λi hi e=>?_,h2⟩;have he:Qy[i]?=some Qy[i]:=List.getElem?_eq_getElem (by omega);refine h1 _ (List.mem_of_getElem? he) ?_;rw[e,<- P9 hku,KV he]
   rcases Z1 tu _ q n hq with ⟨e,he,rfl,rfl⟩ | ⟨h1,h2⟩
   obtain⟨i,hi⟩:=List.mem_iff_getElem?.1 he;have hil:=(List.getElem?_eq_some_iff.1 hi).1;refine .inl ⟨i,by omega,by rw[<- P9 hkt,KV hi],?_⟩;obtain⟨kk,hkk⟩:=aT (T:=T2) (n:=0) (r:=i) (Nat.zero_le _) (by omega);obtain⟨_,h3⟩:=Vz hkk;rw[Nat.sub_zero,<- htu,List.getElem?_map,hi] at h3;simp at h3;rw[hkk,h3];refine .inr ⟨λi hi e=>?_,by rw[<- a3];exact h2⟩;have he:tu[i]?=some tu[i]:=List.getElem?_eq_getElem (by omega);refine h1 _ (List.mem_of_getElem? he) ?_;rw[e,<- P9 hkt,KV he]
end AI
namespace AI
open Go Go.RowKit
section
variable {P:Program} {G:A8}
def QM(G:A8)(s0:AS)(r0:CR)(s2:AS):CR->AS->Prop:=λr s'=>match r0 with
 | .ret v=>∃a,r=.ret a/\vV G s0 [a] s' [v] s2
 | .pan v=>∃a,r=.pan a/\vV G s0 [a] s' [v] s2
def B1(hm:P.follows .mixedOrders=true){f:FuncId}{args:List AV}{s0 s2:AS}{r0:CR}(h:WC P G (XS P G) H0 f args s0 (QM G s0 r0 s2)):Sound P G (.call f args s0 r0 s2):=by
 obtain⟨r,s',hj,hq⟩:=h;have hS:=sound (Rz hm) hj;intro cx w vs hs GD;refine(hS cx w vs hs GD).mono ?_;rintro e w' ⟨c',hx,hs',iQ⟩;cases r0 with
 | ret v =>
   obtain⟨a,rfl,hf⟩:=hq;obtain⟨u,rfl,hu⟩:=iQ;obtain⟨c2,x2,T8,f2⟩:=hf cx w c' w' [u] hx hs hs' (.cons hu .nil);cases f2 with
   | cons f3 _=>exact⟨c2,x2,T8,u,rfl,f3⟩
 | pan v =>
   obtain⟨a,rfl,hf⟩:=hq;obtain⟨u,rfl,hu⟩:=iQ;obtain⟨c2,x2,T8,f2⟩:=hf cx w c' w' [u] hx hs hs' (.cons hu .nil);cases f2 with
   | cons f3 _=>exact⟨c2,x2,T8,u,rfl,f3⟩
def PZ(P:Program)(G:A8)(fn:Func)(m:Nat)(s0:AS)(Q:AX->List AV->AS->Prop)(v:AV)(s2:AS):Prop:=∀a s',vV G s0 [a] s' [v] s2->Rc P fn m Q a s'
def Th(G:A8)(m:Nat)(s0:AS)(Q:AX->List AV->AS->Prop)(v:AV)(s2:AS):Prop:=∀a s',vV G s0 [a] s' [v] s2->Uc m Q a s'
def PZ.body{fn:Func}{m:Nat}{s0 s2:AS}{v:AV}:PZ P G fn m s0 (SW P fn m (QM G s0 (.ret v) s2)) v s2:=λa s' hf=>.body ⟨a,rfl,hf⟩
def Th.body{fn:Func}{m:Nat}{s0 s2:AS}{v:AV}:Th G m s0 (SW P fn m (QM G s0 (.pan v) s2)) v s2:=λa s' hf=>.body ⟨a,rfl,hf⟩
def PZ.outer{fn:Func}{m id:Nat}{ks:List KI}{s0 s2:AS}{Q:AX->List AV->AS->Prop}{v:AV}(h:PZ P G fn m s0 Q v s2):PZ P G fn m s0 (Di id (CY P G ks Q)) v s2:=λa s' hf=>(h a s' hf).outer
def PZ.G6{fn:Func}{m:Nat}{L:Code}{s0 s1 s2:AS}{Q:AX->List AV->AS->Prop}{v:AV}(h:PZ P G fn m s0 Q v s2):PZ P G fn m s0 (RT P G L s1 Q) v s2:=h
def Th.outer{m id:Nat}{ks:List KI}{s0 s2:AS}{Q:AX->List AV->AS->Prop}{v:AV}(h:Th G m s0 Q v s2):Th G m s0 (Di id (CY P G ks Q)) v s2:=λa s' hf=>(h a s' hf).outer
def Th.G6{m:Nat}{L:Code}{s0 s1 s2:AS}{Q:AX->List AV->AS->Prop}{v:AV}(h:Th G m s0 Q v s2):Th G m s0 (RT P G L s1 Q) v s2:=h
def Af{f:FuncId}{args:List AV}{v:AV}{pre:List (Nat×AL)}{tp:List (Nat×Nat)}{Qy:List (Nat×AL)}{tu:List (Nat×Nat)}(h:Cd.ok P G (.E6 f args (.ret v) pre tp Qy tu)):PC P G :=
 ⟨.u v pre tp Qy tu,[.E6 f args (.ret v) pre tp Qy tu,.rU (N0 pre) (N0 pre) (OD tp) (OD tp)],⟨h,⟨rfl,rfl⟩,trivial⟩⟩
def apA{f:FuncId}{args VY:List AV}{v:AV}{pre:List (Nat×AL)}{tp:List (Nat×Nat)}{Qy:List (Nat×AL)}{tu:List (Nat×Nat)}(w:Wn args VY)(h:Cd.ok P G (.E6 f VY (.ret v) pre tp Qy tu)):PC P G :=
 ⟨.u v pre tp Qy tu,[.E6 f args (.ret v) pre tp Qy tu,.rU (N0 pre) (N0 pre) (OD tp) (OD tp)],⟨λs h1 h2 cx wd vs hs ha=>h s h1 h2 cx wd vs hs (w.ok ha),⟨rfl,rfl⟩,trivial⟩⟩
def An{f:FuncId}{args:List AV}{v:AV}{pre:List (Nat×AL)}{tp:List (Nat×Nat)}{Qy:List (Nat×AL)}{tu:List (Nat×Nat)}(h:Cd.ok P G (.E6 f args (.pan v) pre tp Qy tu)):PC P G :=
 ⟨.q v pre tp Qy tu,[.E6 f args (.pan v) pre tp Qy tu,.rU (N0 pre) (N0 pre) (OD tp) (OD tp)],⟨h,⟨rfl,rfl⟩,trivial⟩⟩
def fS:PC P G:=⟨.za,[],trivial⟩
end
end AI
namespace AI
open Go Go.RowKit
mutual
def YZ{n m n2 m2:Nat}(h1:n<=n2)(h2:m<=m2):∀{a:AV},under n m a=true->under n2 m2 a=true
 | .sc _,_=>rfl
 | .agg cs,h=>by simp only[under] at h ⊢;exact JI h1 h2 h
 | .Dd cs,h=>by simp only[under] at h ⊢;exact JI h1 h2 h
 | .sl o k cs,h=>by
   simp only[under,Bool.and_eq_true] at h ⊢;refine⟨?_,JI h1 h2 h.2⟩;have h3:=h.1;cases o with
   | row r z=>simp only[decide_eq_true_eq] at h3 ⊢;omega
   | _=>rfl
 | .msl id _ _,h=>by simp only[under,decide_eq_true_eq] at h ⊢;omega
 | .el cs,h=>by simp only[under] at h ⊢;exact JI h1 h2 h
 | .ptr id _,h=>by simp only[under,decide_eq_true_eq] at h ⊢;omega
 | .fn _ a b,h=>by simp only[under,Bool.and_eq_true] at h ⊢;exact⟨JI h1 h2 h.1,JI h1 h2 h.2⟩
 | .ifc _ v,h=>by simp only[under] at h ⊢;exact YZ h1 h2 h
 | .mp id,h=>by simp only[under,decide_eq_true_eq] at h ⊢;omega
 | .any,_=>rfl
 | .raw _ _ _,_=>rfl
def JI{n m n2 m2:Nat}(h1:n<=n2)(h2:m<=m2):∀{a:List AV},FC n m a=true->FC n2 m2 a=true
 | [],_=>rfl
 | a::l,h=>by simp only[FC,Bool.and_eq_true] at h ⊢;exact⟨YZ h1 h2 h.1,JI h1 h2 h.2⟩
end
def Wn.z{l m:List AV}(t:Wn l m):Wn (.sl .full 0 []::l) (.sl .lost 0 []::m):=.s rfl t
def rS{P:Program}{G:A8}{r:HR}{X:Prop}{x:Value}{fn:Func}{m:Nat}{l:List (PC P G)}(R:Ue P G l (SW P fn m (λr _=>∃a,r=.ret a/\Fits 0 0 a (.sc x))) r X)(h:apN P fn r=some (fQ l,.sc x)):X:=AJ fn m R h .body .sc
abbrev JJ:=List Value×List AV
def azA:List Value->Nat->Value
 | [],_=>undef
 | v::_,0=>v
 | _::l,k+1=>azA l k
def aEI:List AV->Nat->AV
 | [],_=>.sc undef
 | v::_,0=>v
 | _::l,k+1=>aEI l k
def jn(j:JJ)(k:Nat):Value:=azA j.1 k
def gn(j:JJ)(k:Nat):AV:=aEI j.2 k
def frm:Nat->Nat->List (Nat×AV)->List Nat->Nat->List Nat->Nat->JJ->List AV
 | 0,_,_,_,_,_,_,_=>[]
 | n+1,p,l,bs,kb,gs,kg,j=>(match hd1 p l with
   | some v=>v::frm n (p+1) (l.drop 1) bs kb gs kg j
   | none=>(match hd2 p bs with
     | true=>.sc (jn j kb)::frm n (p+1) l (bs.drop 1) (kb+1) gs kg j
     | false=>(match hd2 p gs with
       | true=>gn j kg::frm n (p+1) l bs kb (gs.drop 1) (kg+1) j
       | false=>.any::frm n (p+1) l bs kb gs kg j)))
where
 hd1 (p:Nat):List (Nat×AV)->Option AV
   | []=>none
   | e::_=>(match Nat.beq e.1 p with | true=>some e.2 | false=>none)
 hd2 (p:Nat):List Nat->Bool
   | []=>false
   | e::_=>Nat.beq e p
structure Mm(κ ν:Type) where
 es:List (κ×ν×Nat)
 cl:Nat
section
variable {κ ν:Type} [DecidableEq κ]
def Ll(k:κ):List (κ×ν×Nat)->Nat->Option (Nat×ν)
 | [],_=>none
 | e::es,i=>if e.1=k then some (i,e.2.1) else Ll k es (i+1)
def Mm.get(m:Mm κ ν)(k:κ):Option ν:=(Ll k m.es 0).map (·.2)
def Mm.set(m:Mm κ ν)(k:κ)(v:ν):Mm κ ν:=match Ll k m.es 0 with
 | some (j,_)=>(match m.es[j]? with | some e=>⟨m.es.set j (k,v,e.2.2),m.cl⟩ | none=>m)
 | none=>⟨m.es++[(k,v,m.cl)],m.cl+1⟩
def Mm.nil:Mm κ ν:=⟨[],0⟩
def xZ(k k2:κ)(v:ν)(b:Nat):∀(es:List (κ×ν×Nat)) (i:Nat),Ll k (es++[(k2,v,b)]) i=match Ll k es i with
   | some r=>some r
   | none=>if k2=k then some (i+es.length,v) else none:=by
 intro es
 induction es with
 | nil=>intro i;simp[Ll]
 | cons e es ih =>
   intro i;simp only[List.cons_append,Ll];by_cases he:e.1=k;simp[he];rw[if_neg he,if_neg he,ih (i+1)];cases Ll k es (i+1) with
   | some r=>rfl
   | none=>simp only[List.length_cons];rw[show i+1+es.length=i+(es.length+1) by omega]
def jO{k:κ}:∀{es:List (κ×ν×Nat)} {i j:Nat} {v:ν},Ll k es i=some (j,v)->∃m e,j=i+m/\es[m]?=some e/\e.1=k/\e.2.1=v:=by
 intro es
 induction es with
 | nil=>intro i j v h;cases h
 | cons e es ih =>
   intro i j v h;simp only[Ll] at h;split at h;rename_i he;cases h;exact⟨0,e,rfl,rfl,he,rfl⟩;obtain⟨m,e',h1,h2,h3⟩:=ih h;exact⟨m+1,e',by omega,by simpa using h2,h3⟩
def yA{k:κ}{v:ν}:∀{es:List (κ×ν×Nat)} {i m b:Nat} {v0:ν},Ll k es i=some (i+m,v0)->∀k',Ll k' (es.set m (k,v,b)) i=if k'=k then some (i+m,v) else Ll k' es i:=by
 intro es
 induction es with
 | nil=>intro i m b v0 h;cases h
 | cons e es ih =>
   intro i m b v0 h k';simp only[Ll] at h;split at h;rename_i he;have hm:m=0:=by have h5:=congrArg (λo:Option (Nat×ν)=>o.map (·.1)) h;simp at h5;omega
   subst hm;simp only[List.set_cons_zero,Ll,he];by_cases hk:k'=k;simp[hk];have hk2:¬k=k':=λe=>hk e.symm;simp[hk,hk2]
   · rename_i he
     obtain⟨m',_,hm,_⟩:=jO h;cases m with
     | zero=>omega
     | succ m =>
       simp only[List.set_cons_succ,Ll];have:=ih (i:=i+1) (m:=m) (b:=b) (by rw[show i+1+m=i+(m+1) by omega];exact h) k';by_cases hk:e.1=k';rw[if_pos hk,if_pos hk];have:¬k'=k:=λe'=>he (hk.trans e');simp[this];rw[if_neg hk,if_neg hk,this,show i+1+m=i+(m+1) by omega]
def Mm.WW(m:Mm κ ν)(k:κ)(v:ν)(k':κ):(m.set k v).get k'=if k'=k then some v else m.get k':=by
 unfold Mm.get Mm.set;cases hf:Ll k m.es 0 with
 | none =>
   simp only;rw[xZ];by_cases hk:k'=k;subst hk;rw[hf];simp
   · cases iR:Ll k' m.es 0 with
     | some r=>simp[hk]
     | none =>
       have hk2:¬k=k':=λe=>hk e.symm;simp[hk,hk2]
 | some r =>
   obtain⟨j,v0⟩:=r;obtain⟨q,e,h1,h2,h3,_⟩:=jO hf;have hj:j=q:=by omega
   subst hj;simp only[h2];rw[yA (i:=0) (m:=j) (v0:=v0) (by rw[Nat.zero_add];exact hf)];by_cases hk:k'=k<;>simp[hk]
end
structure aNV{κ:Type}[DecidableEq κ](d:TypeDesc)(kv:κ->Value):Prop where
 pk:plainKey d=true
 same:∀a b:κ,YJ d (kv a) (kv b)=some (decide (b=a))
end AI
namespace AI
open Go Go.RowKit
section
variable {P:Program} {G:A8} {α:Type} {f:α->List AV} {C:List α->List AV} {k:Nat}
def N2.ixm(_:N2 f C k){t elem:TypeId}(hu:P.underlying t=some (.slice elem))(hs:(P.info? elem).map (·.size)=some k){id n i:Nat}(h:i < n):CO P t (.msl id 0 n) (.sc (.int .i64 ((i:Nat):Int)))=some (.ptr id (0+i*k)):=by
 cases hi:P.info? elem with
 | none=>rw[hi] at hs;cases hs
 | some e =>
   rw[hi] at hs;have hk:e.size=k:=by simpa using hs
   have hn:QV (.sc (.int .i64 ((i:Nat):Int)))=some i:=by unfold QV;simp
   unfold CO;rw[hu,hn];simp only[hi];rw[if_pos h,hk]
def aN{l:List α}{i:Nat}(y:α)(h:i < l.length):l.set i y=l.take i++y::l.drop (i+1):=by
 rw[List.set_eq_take_append_cons_drop,if_pos h]
def N2.st(h:N2 f C k){e:TypeId}(hs:(P.info? e).map (·.size)=some k){l:List α}{i:Nat}{x:α}(hx:l[i]?=some x)(y:α){v:AV}(hv:cellsOf v=f y)(h1:(f y).all one=true):Cd.ok P G (.stB (.cells (C l)) e (0+i*k) v (.cells (C (l.set i y)))):=by
 intro s id hg;have hlt:=(List.getElem?_eq_some_iff.1 hx).1;have hle:i*k+k<=l.length*k:=by have:=Nat.mul_le_mul_right k hlt;rw[Nat.succ_mul] at this;exact this
 cases hi:P.info? e with
 | none=>rw[hi] at hs;cases hs
 | some j =>
   rw[hi] at hs;have hk:j.size=k:=by simpa using hs
   unfold Kr;rw[hi];simp only[hg];rw[hv,hk,h.eq,Nat.zero_add,if_pos ⟨h.len y,h1,by rw[Is h.len];exact hle⟩,h.eq];congr 3;unfold It;rw[h.len y,Wl h.len,show i*k+k=(i+1)*k by rw[Nat.succ_mul],Wk h.len,aN y hlt,Oz,F9,List.append_assoc]
end
end AI
namespace AI
open Go Go.RowKit
section
variable {P:Program} {G:A8}
def aaP{f:FuncId}{fn:Func}{c:Code}{args:List AV}{s s0 s2:AS}{m:Nat}{v:AV}(hf:P.funcs[f]?=some fn)(hb:fn.body=some c)(h:W P G (XS P G) H0 c (args++List.replicate (fn.ntmps - args.length) (.sc undef)) s (SW P fn m (QM G s0 (.ret v) s2))):WC P G (XS P G) H0 f args s (λr s'=>QM G s0 (.ret v) s2 r (s'.cut m)):=by
 obtain⟨e,Vl,s1,h1,h2⟩:=h;cases e with
 | normal=>obtain⟨v,h3,h4⟩:=h2;exact⟨_,_,.body hf hb h1 (.inl rfl) h3 (.inr rfl),h4⟩
 | ret=>obtain⟨v,h3,h4⟩:=h2;exact⟨_,_,.body hf hb h1 (.inr rfl) h3 (.inr rfl),h4⟩
 | pan v=>obtain⟨a,ha,_⟩:=h2;cases ha
 | exit id=>exact h2.elim
def aAE(hm:P.follows .mixedOrders=true){f:FuncId}{args:List AV}{s0 s2:AS}{v:AV}{m:Nat}(h:WC P G (XS P G) H0 f args s0 (λr s'=>QM G s0 (.ret v) s2 r (s'.cut m))):Sound P G (.call f args s0 (.ret v) s2):=by
 obtain⟨r,s',hj,a,rfl,hf⟩:=h;have hS:=sound (Rz hm) hj;intro cx w vs hs GD;refine(hS cx w vs hs GD).mono ?_;rintro e w' ⟨c',hx,hs',u,rfl,hu⟩;obtain⟨c2,x2,T8,f2⟩:=hf cx w c' w' [u] hx hs (hs'.cut m) (.cons hu .nil);cases f2 with
 | cons f3 _=>exact⟨c2,x2,T8,u,rfl,f3⟩
def amT(hG:∀g cs,G g=some cs->BC cs=true){s s' s2:AS}{fr' fr2:List AV}(hn:s.nx<=s2.nx)(hr:s.nr<=s2.nr)(hn2:s2.nx<=s'.nx)(hr2:s2.nr<=s'.nr)
   (hd:Jo s2.h s2.nx) (axB:∀id b,look id s2.h=some b->∃b',look id s'.h=some b'/\QF s2.nx s2.nr b' b) (hF:∀r n,DY r s2.F=some n->DY r s'.F=some n/\r < s2.nr)
   (hf:Jp s2.nx s2.nr fr' fr2):vV G s fr' s' fr2 s2:=by
 intro cx w c' w' vs hx hs hs' hfr;have hl1:=hs.len;have hl2:=hs'.len;have hl3:=hs.IN;have hl4:=hs'.IN
 have RC:cx.CT <+: c'.CT.take s2.nx:=by
   obtain⟨t,ht⟩:=hx.CT;rw[<- ht,List.take_append,List.take_of_length_le (by omega)];exact List.prefix_append _ _
 have hrl:(c'.rows.take s2.nr).length=s2.nr:=by rw[List.length_take];omega
 refine⟨c'.upto s2.nx s2.nr,⟨RC,?_,λr x WY h=>hx.rows r x WY (EX h).1,λg i v hv=>UY (hx.ZI g i v hv),hx.below,hx.base,hx.bad,λg hg=>hx.ZA g (List.mem_of_mem_take hg),λr g n cap sz h=>hx.ZB r g n cap sz (EX h).1,hx.G3⟩,?_,hf _ _ _ hfr⟩;show cx.rows.length<=(c'.rows.take s2.nr).length;omega;refine⟨?_,hd,λi j g h1 h2=>hs'.nodup i j g (EX h1).1 (EX h2).1,λg hg=>hs'.low g (List.mem_of_mem_take hg),λid g b h1 h2=>?_,hrl.symm,λr g n cap sz h=>?_,λr n h=>?_,λg hg=>hs'.Md g (List.mem_of_mem_take hg),hs'.Mn,λr r' g n cap sz n' cap' M4 h h'=>hs'.IH r r' g n cap sz n' cap' M4 (EX h).1 (EX h').1,λg cs hg=>(hs'.Mp g cs hg).upto (Cp _ _ (hG g cs hg)),hs'.PV⟩;show s2.nx=(c'.CT.take s2.nx).length;rw[List.length_take];omega;obtain⟨b',h3,h4⟩:=axB id b h2;obtain⟨o,ho,hb⟩:=hs'.box id g b' (EX h1).1 h3;exact⟨o,ho,h4 _ _ _ hb⟩;obtain⟨a1,a2,a3,a4⟩:=hs'.row r g n cap sz (EX h).1;exact⟨a1,a2,λhm=>a3 (List.mem_of_mem_take hm),a4⟩;obtain⟨h1,h2⟩:=hF r n h;rcases hs'.IZ r n h1 with ⟨h3,h4⟩ | ⟨g,cap,sz,h3⟩
 exact .inl ⟨Qw h3 h2,h4⟩;exact .inr ⟨g,cap,sz,Qw h3 h2⟩
def apO(hG:∀g cs,G g=some cs->BC cs=true){live:List Nat}{n m:Nat}{s0:AS}{fr':List AV}{s':AS}{fps:List (FP n m)}{fbs:List (FB n m)}{fr2:List AV}{s2:AS}(hn:s0.nx<=n)(hr:s0.nr<=m)(hn2:n<=s'.nx)(hr2:m<=s'.nr)(h:azV live n m fr' s' (Zf fps) (fbB fbs)=some (fr2,s2,fK fps,fbA fbs)):vV G s0 fr' s' fr2 s2:=by
 unfold azV at h;split at h;rename_i f1 as hm;split at h;rename_i h1 cas hb;simp only[Option.some.injEq,Prod.mk.injEq] at h;obtain⟨rfl,rfl,rfl,rfl⟩:=h;intro cx w c' w' vs hx hs hs' hfr;obtain⟨hd,hl⟩:=alT hb;refine amT (s:=s0) (s2:=⟨h1,n,V5 m s'.F,m⟩) hG hn hr hn2 hr2 (hd _ (gX hs'.desc)) (λid b hb=>?_) (λr n hr=>iA hr) (aoH hm) cx w c' w' vs hx hs hs' hfr;obtain⟨b',h3,h4⟩:=hl id b hb;exact⟨b',Tp hs'.desc h3,h4⟩;cases h;cases h
def aCU(n:Nat):List Nat->Bool
 | []=>false
 | k::l=>Nat.beq n k||aCU n l
def YA(ks:List Nat):List (Nat×AL)->List (Nat×AL)
 | []=>[]
 | e::l=>match aCU e.1 ks with
   | true=>e::YA ks l
   | false=>YA ks l
def TH{ks:List Nat}:∀{l:List (Nat×AL)} {n:Nat},Jo l n->Jo (YA ks l) n
 | [],_,_=>trivial
 | e::l,n,h=>by
   simp only[YA];split;exact⟨h.1,TH h.2⟩;exact(TH h.2).mono (Nat.le_of_lt h.1)
def TI{ks:List Nat}{id:Nat}{b:AL}:∀{l:List (Nat×AL)} {n:Nat},Jo l n->look id (YA ks l)=some b->look id l=some b
 | [],_,_,h=>h
 | e::l,n,hd,h=>by
   simp only[YA] at h;split at h;simp only[look] at h ⊢;split at h;exact h;exact TI hd.2 h;have h1:=TI hd.2 h;have h2:=W5 hd.2 h1;simp only[look];split;rename_i hb;have:=beq_true hb;omega;exact h1
def AS.pick(s:AS)(ks:List Nat):AS:=⟨YA ks s.h,s.nx,s.F,s.nr⟩
def St.pick{c:Cx}{w:World}{s:AS}(h:St G c w s)(ks:List Nat):St G c w (s.pick ks) :=
 ⟨h.len,TH h.desc,h.nodup,h.low,λid g b h1 h2=>h.box id g b h1 (TI h.desc h2),h.IN,h.row,h.IZ,h.Md,h.Mn,h.IH,h.Mp,h.PV⟩
def auQ(ks:List Nat)(live:List Nat)(n m0:Nat)(P:Program)(fn:Func)(m:Nat)(bs:List AV)(cs:List AL):HR->Option (List Cd×List AV×AS×List AV×List AL)
 | some (.fin .ret,[],cd,fr,s)=>(match GB P s fn fr with
   | some v=>(match Nat.ble n s.nx&&Nat.ble m0 s.nr with
     | true=>(match azV live n m0 [v] ((s.cut m).pick ks) bs cs with
       | some (fr2,s2,as,cas)=>some (cd,fr2,s2,as,cas)
       | none=>none)
     | false=>none)
   | none=>none)
 | _=>none
def amW(hG:∀g cs,G g=some cs->BC cs=true){r:HR}{X:Prop}{s0:AS}{Q:AX->List AV->AS->Prop}(fn:Func)(m:Nat){l:List (PC P G)}(ks:List Nat)(live:List Nat){n m0:Nat}(fps:List (FP n m0))(fbs:List (FB n m0))(v:AV)(s2:AS)(R:Ue P G l Q r X)(hn:s0.nx<=n)(hr:s0.nr<=m0)
   (h:auQ ks live n m0 P fn m (Zf fps) (fbB fbs) r=some (fQ l,[v],s2,fK fps,fbA fbs)) (k:PZ P G fn m s0 Q v s2):X:=by
 unfold auQ at h;split at h;split at h;rename_i v' hv;split at h;rename_i hle;simp only[Bool.and_eq_true] at hle;split at h;rename_i h1;simp only[Option.some.injEq,Prod.mk.injEq] at h;obtain⟨rfl,rfl,rfl,rfl,rfl⟩:=h;exact R _ _ _ _ rfl (NC l) (k _ _ (λcx w c' w' vs hx hs hs' hf=>apO (s':=(AS.cut _ m).pick ks) hG hn hr (Nat.le_of_ble_eq_true hle.1) (Nat.le_of_ble_eq_true hle.2) h1 cx w c' w' vs hx hs (hs'.pick ks) hf) _ _ hv rfl);cases h;cases h;cases h;cases h
inductive RnH(dn dr nx nr:Nat):List (Nat×AL)->List (Nat×AL)->Prop where
 | nil:RnH dn dr nx nr [] []
 | cons {i:Nat} {b b':AL} {l m:List (Nat×AL)} (h:vW dn dr (λi=>nx+i) (λr=>nr+r) b b') (t:RnH dn dr nx nr l m):RnH dn dr nx nr ((i,b)::l) ((nx+i,b')::m)
def RnH.desc{dn dr nx nr:Nat}{l m h:List (Nat×AL)}(hr:RnH dn dr nx nr l m)(hh:Jo h nx):∀{n:Nat},Jo l n->Jo (m++h) (nx+n):=by
 induction hr with
 | nil=>intro n _;exact hh.mono (Nat.le_add_right _ _)
 | cons h1 t ih=>intro n hd;exact⟨Nat.add_lt_add_left hd.1 _,ih hd.2⟩
def RnH.look{dn dr nx nr id:Nat}{b:AL}{l m h:List (Nat×AL)}(hr:RnH dn dr nx nr l m)(hb:AI.look id (m++h)=some b):(∃i b0,id=nx+i/\AI.look i l=some b0/\vW dn dr (λi=>nx+i) (λr=>nr+r) b0 b)\/AI.look id h=some b:=by
 induction hr with
 | nil=>exact .inr hb
 | @cons i b0 b1 l m h1 t ih =>
   simp only[List.cons_append,AI.look] at hb;split at hb;rename_i he;cases hb;refine .inl ⟨i,b0,(beq_true he).symm,?_,h1⟩;simp only[AI.look];rw[Nat.beq_refl];rename_i he;have hne:=beq_false he;rcases ih hb with ⟨i',b',e,h2,h3⟩ | h2
   refine .inl ⟨i',b',e,?_,h3⟩;simp only[AI.look];split;rename_i h4;have:=beq_true h4;omega;exact h2;exact .inr h2
def xV{nr r n:Nat}{F:List (Nat×Nat)}:∀{F2:List (Nat×Nat)},DY r (F2.map (λp=>(nr+p.1,p.2))++F)=some n->(∃q,r=nr+q/\DY q F2=some n)\/DY r F=some n:=by
 intro F2
 induction F2 with
 | nil=>exact λh=>.inr h
 | cons x l ih =>
   intro h;simp only[List.map_cons,List.cons_append,DY] at h;split at h;rename_i he;cases h;refine .inl ⟨x.1,(beq_true he).symm,?_⟩;simp only[DY];rw[Nat.beq_refl];rename_i he;have hne:=beq_false he;rcases ih h with ⟨q,e,h2⟩ | h2
   refine .inl ⟨q,e,?_⟩;simp only[DY];split;rename_i h4;have:=beq_true h4;omega;exact h2;exact .inr h2
def awO(hG:∀g cs,G g=some cs->BC cs=true){f:FuncId}{args:List AV}{v v':AV}{h2 h3:List (Nat×AL)}{dn dr nx nr:Nat}{F2:List (Nat×Nat)}(h:Sound P G (.call f args ⟨[],0,[],0⟩ (.ret v) ⟨h2,dn,F2,dr⟩))(hp:BC args=true)
   (hv:Rn dn dr (λi=>nx+i) (λr=>nr+r) v v') (hb:RnH dn dr nx nr h2 h3):Cd.ok P G (.ZR f args nx nr v' h3 dn (F2.map λp=>(nr+p.1,p.2)) dr):=by
 intro s hnx hnr cx w vs hs ha;subst hnx hnr;have hlp:=hs.len;have hlr:=hs.IN
 have IB:∀g i x,LG cx w g i x->LG ⟨w.heap.size,[],[],cx.ZF⟩ w g i x:=by
   intro g i x hx;refine⟨hx.1,λGG=>?_,hx.2.2⟩;rcases GG with GG | ⟨r,n,cap,sz,hr,_⟩ | GG
   cases GG;simp at hr;exact hx.2.1 GG
 have FW:St G ⟨w.heap.size,[],[],cx.ZF⟩ w ⟨[],0,[],0⟩ :=
   ⟨rfl,trivial,(λi j g h1=>by simp at h1),(λg hg=>by cases hg),(λid g b h1=>by simp at h1),rfl,(λr g n cap sz hr=>by simp at hr),(λr n hr=>by cases hr),(λg hg=>by cases hg),(λg i hb=>hs.TP hb),(λr r' g n cap sz n' cap' M4 hr=>by simp at hr),(λg cs hg=>Bc.plain IB (hG g cs hg) (hs.Mp g cs hg)),Nat.le_refl _⟩
 refine(h _ w vs FW (CH.plain IB hp ha)).mono ?_;rintro e w' ⟨c',hx,hs',u,rfl,hu⟩;have N3:=hx.below;have Tu:Q9 w w' (λ_=>False):=⟨N3.os,N3.tape,N3.output,N3.size,λk hk _=>N3.block k hk⟩;have hpn:∀g,some g∈c'.CT->w.heap.size<=g:=λg hg=>(hx.ZA g hg).resolve_left (by simp);have hrn:∀(r:Nat) g n cap sz,c'.rows[r]?=some (.QW g n cap sz)->w.heap.size<=g:=λr g n cap sz hg=>(hx.ZB r g n cap sz hg).resolve_left (by rintro⟨_,_,_,_,hh⟩;simp at hh);have hl2:dn=c'.CT.length:=hs'.len;have hr2:dr=c'.rows.length:=hs'.IN;let c1:Cx:=⟨cx.base,cx.CT++c'.CT,cx.rows++c'.rows,cx.bad⟩
 have hpu:∀(i:Nat) g,c'.CT[i]?=some (some g)->c1.CT[s.nx+i]?=some (some g):=λi g hg=>by
   show(cx.CT++c'.CT)[s.nx+i]?=_;rw[List.getElem?_append_right (by omega),show s.nx+i - cx.CT.length=i by omega];exact hg
 have hru:∀(r:Nat) x,c'.rows[r]?=some x->c1.rows[s.nr+r]?=some x:=λr x hg=>by
   show(cx.rows++c'.rows)[s.nr+r]?=_;rw[List.getElem?_append_right (by omega),show s.nr+r - cx.rows.length=r by omega];exact hg
 have hpc:∀(i:Nat) g,c1.CT[i]?=some (some g)->(i < s.nx/\cx.CT[i]?=some (some g))\/∃k,i=s.nx+k/\c'.CT[k]?=some (some g):=λi g hg=>by
   have hg:(cx.CT++c'.CT)[i]?=some (some g):=hg;by_cases hi:i < cx.CT.length;rw[List.getElem?_append_left hi] at hg;exact .inl ⟨by omega,hg⟩;rw[List.getElem?_append_right (by omega)] at hg;exact .inr ⟨i - cx.CT.length,by omega,hg⟩
 have hrc:∀(i:Nat) x,c1.rows[i]?=some x->(i < s.nr/\cx.rows[i]?=some x)\/∃k,i=s.nr+k/\c'.rows[k]?=some x:=λi x hg=>by
   have hg:(cx.rows++c'.rows)[i]?=some x:=hg;by_cases hi:i < cx.rows.length;rw[List.getElem?_append_left hi] at hg;exact .inl ⟨by omega,hg⟩;rw[List.getElem?_append_right (by omega)] at hg;exact .inr ⟨i - cx.rows.length,by omega,hg⟩
 have hmc:∀g,some g∈c1.CT->some g∈cx.CT\/some g∈c'.CT:=λg hg=>List.mem_append.1 hg;have KH:∀g i,cx.ZF g i->c'.ZF g i:=λg i hh=>.inr (.inr (by rw[hx.bad];exact hh))
 have iX:∀g i x,LG c' w' g i x->LG c1 w' g i x:=by
   intro g i x iY;refine⟨iY.1,λGG=>iY.2.1 ?_,iY.2.2⟩;rcases GG with GG | ⟨q,n,cap,sz,hq,h1,h2⟩ | GG
   rcases hmc g GG with hm | hm
   exact KH _ _ (.inl hm);exact .inl hm;rcases hrc q _ hq with ⟨_,h3⟩ | ⟨k,_,h3⟩
   exact KH _ _ (.inr (.inl ⟨q,n,cap,sz,h3,h1,h2⟩));exact .inr (.inl ⟨k,n,cap,sz,h3,h1,h2⟩);exact KH _ _ (.inr (.inr GG))
 have ext:Ext cx w c1 w':=by
   refine⟨List.prefix_append _ _,by simp[c1],λq y hq hy=>?_,λg i x hv=>iX g i x (hx.ZI g i x (IB g i x hv)),Tu.below hs.PV (λ_ hf=>hf.elim),rfl,rfl,λg hg=>?_,λq g n cap sz hq=>?_,λq hq hp hr=>Tu.block q hq (λhf=>hf)⟩;rcases hrc q y hy with ⟨_,h3⟩ | ⟨k,h3,_⟩
   exact⟨y,h3,Kq.refl y⟩;omega;rcases hmc g hg with hm | hm
   exact .inl hm;exact .inr (hpn g hm);rcases hrc q _ hq with ⟨_,h3⟩ | ⟨k,_,h3⟩
   exact .inl ⟨_,_,_,_,h3⟩;exact .inr (hrn _ _ _ _ _ h3)
 have hup:Up dn dr (λi=>s.nx+i) (λr=>s.nr+r) c' w' c1 w':=⟨iX,λi g _ hg=>hpu i g hg,λq hq=>by
   have hq:q < c'.rows.length:=by omega
   exact⟨_,hru q _ (List.getElem?_eq_getElem hq),List.getElem?_eq_getElem hq⟩⟩
 have st1:St G c1 w' ⟨h3++s.h,s.nx+dn,F2.map (λp=>(s.nr+p.1,p.2))++s.F,s.nr+dr⟩:=by
   refine⟨by simp only[c1,List.length_append];omega,hb.desc hs.desc hs'.desc,λi j g h1 h2=>?_,λg hg=>?_,λid g b h1 h2=>?_,by simp only[c1,List.length_append];omega,λq g n cap sz hq=>?_,λq n hq=>?_,λg hg=>?_,λg i hb=>Nat.lt_of_lt_of_le (hs.Mn g i hb) Tu.size,λq q' g n cap sz n' cap' M4 h1 h2=>?_,λg cs Ya=>(hs.Mp g cs Ya).mono ext,Nat.le_trans hs.PV Tu.size⟩;rcases hpc i g h1 with ⟨_,a1⟩ | ⟨k,rfl,a1⟩<;>rcases hpc j g h2 with ⟨_,a2⟩ | ⟨k2,rfl,a2⟩
   exact hs.nodup _ _ _ a1 a2;have:=hs.Mu (List.mem_of_getElem? a1);have:=hpn g (List.mem_of_getElem? a2);omega;have:=hs.Mu (List.mem_of_getElem? a2);have:=hpn g (List.mem_of_getElem? a1);omega;rw[hs'.nodup _ _ _ a1 a2];rcases hmc g hg with hm | hm
   exact hs.low g hm;exact Nat.le_trans hs.PV (hpn g hm);rcases hb.look h2 with ⟨i,b0,rfl,h4,h5⟩ | h4
   rcases hpc _ g h1 with ⟨a0,_⟩ | ⟨k,a0,a1⟩
   omega;have:k=i:=by omega
   subst this;obtain⟨o,ho,xE⟩:=hs'.box k g b0 a1 h4;exact⟨o,ho,h5.up hup xE⟩;have hlt:=W5 hs.desc h4;rcases hpc _ g h1 with ⟨_,a1⟩ | ⟨k,a0,_⟩
   obtain⟨o,ho,xE⟩:=hs.box id g b a1 h4;refine⟨o,?_,xE.mono ext⟩;rw[Tu.block g (Array.getElem?_eq_some_iff.1 ho).1 (λhf=>hf)];exact ho;omega;rcases hrc q _ hq with ⟨_,h3⟩ | ⟨k,_,h3⟩
   obtain⟨a1,a2,a3,a4,vs',T,a5,a6⟩:=hs.row _ _ _ _ _ h3;refine⟨a1,a2,λhm=>?_,a4,vs',T,?_,a6⟩;rcases hmc g hm with hm | hm
   exact a3 hm;have:=hpn g hm;have:=hs.Mx h3;omega;rw[Tu.block g (Array.getElem?_eq_some_iff.1 a5).1 (λhf=>hf)];exact a5;obtain⟨a1,a2,a3,a4,a5⟩:=hs'.row _ _ _ _ _ h3;have hge:=hrn _ _ _ _ _ h3;refine⟨λi hb=>?_,Nat.le_trans hs.PV hge,λhm=>?_,a4,a5⟩;have:=hs.Mn _ _ hb;omega;rcases hmc g hm with hm | hm
   have:=hs.Mu hm;omega;exact a3 hm;rcases xV hq with ⟨k,rfl,h4⟩ | h4
   rcases hs'.IZ k n h4 with ⟨h5,h6⟩ | ⟨g,cap,sz,h5⟩
   exact .inl ⟨hru _ _ h5,h6⟩;exact .inr ⟨g,cap,sz,hru _ _ h5⟩
   have key:∀x,cx.rows[q]?=some x->c1.rows[q]?=some x:=λx hh=>by
     show(cx.rows++c'.rows)[q]?=_;rw[List.getElem?_append_left (List.getElem?_eq_some_iff.1 hh).1];exact hh
   rcases hs.IZ q n h4 with ⟨h5,h6⟩ | ⟨g,cap,sz,h5⟩
   exact .inl ⟨key _ h5,h6⟩;exact .inr ⟨g,cap,sz,key _ h5⟩;rcases hmc g hg with hm | hm
   exact Nat.lt_of_lt_of_le (hs.Md g hm) Tu.size;exact hs'.Md g hm;rcases hrc q _ h1 with ⟨_,a1⟩ | ⟨k,rfl,a1⟩<;>rcases hrc q' _ h2 with ⟨_,a2⟩ | ⟨k2,rfl,a2⟩
   exact hs.IH _ _ _ _ _ _ _ _ _ a1 a2;have:=hs.Mx a1;have:=hrn _ _ _ _ _ a2;omega;have:=hs.Mx a2;have:=hrn _ _ _ _ _ a1;omega;rw[hs'.IH _ _ _ _ _ _ _ _ _ a1 a2]
 exact⟨c1,ext,st1,u,rfl,hv.up hup hu⟩
def azJ{f:FuncId}{args:List AV}{nx nr:Nat}{v:AV}{h:List (Nat×AL)}{dn:Nat}{F:List (Nat×Nat)}{dr:Nat}(h1:Cd.ok P G (.ZR f args nx nr v h dn F dr)):PC P G :=
 ⟨.cn v h dn F dr,[.ZR f args nx nr v h dn F dr],⟨h1,trivial⟩⟩
end
end AI
namespace AI
open Go Go.RowKit
section
variable {P:Program} {G:A8}
def N2.mZ{α:Type}{f:α->List AV}{C:List α->List AV}{k:Nat}(h:N2 f C k)(h1:∀x,(f x).all one=true)(m:List α):(C m).all one=true:=by
 rw[h.eq,List.all_eq_true];intro a ha;obtain⟨x,_,hx⟩:=List.mem_flatMap.1 ha;exact List.all_eq_true.1 (h1 x) a hx
def N2.ga{α:Type}{f:α->List AV}{C:List α->List AV}{k:Nat}(h:N2 f C k){t tx e e2 by':Nat}(hu:P.underlying t=some (.slice e))(hux:P.underlying tx=some (.slice e2))(hi:(P.info? e).map (λi=>(i.size,i.bytes,i.zero.map (·.cells.size)))=some (k,by',some k))(hk:0 < k)(hb:by'<=10000)
   (own:Own) (l m:List α) {o:Own} (s:AS) (hm:m.length=0) (hlen:l.length+m.length<=100000000):Cd.ok P G (.T7 s t tx (.sl own l.length (C l)) (.sl o m.length (C m)) (.sl own l.length (C l)) s):=by
 have hm0:m=[]:=List.eq_nil_of_length_eq_zero hm;subst hm0;cases hq:P.info? e with
 | none=>rw[hq] at hi;cases hi
 | some i =>
   rw[hq] at hi;simp only[Option.map_some,Option.some.injEq,Prod.mk.injEq] at hi;obtain⟨h1,h2,h3⟩:=hi;cases hz:i.zero with
   | none=>rw[hz] at h3;cases h3
   | some z =>
     rw[hz] at h3;simp only[Option.map_some,Option.some.injEq] at h3;have hc:C []=[]:=by rw[h.eq];rfl
     have oH:(C l).length=l.length*k:=by rw[h.eq,Is h.len]
     refine⟨.sl own l.length (C l),?_,λc w u hr=>hr⟩
     have hs:Wt P s i.size tx (.sl o ([]:List α).length (C []))=some (0,[]):=by
       unfold Wt;rw[hux,hc];simp
     unfold KN;simp only[hu,hq,hz];rw[if_pos ⟨by rw[h3,h1],by omega⟩,hs];simp only[List.length_nil] at hlen ⊢
     have hbb:(l.length+0)*i.bytes<=140737488355328:=by
       rw[h2];exact Nat.le_trans (Nat.mul_le_mul hlen hb) (by decide)
     rw[if_pos ⟨by rw[oH,h1],rfl,hbb,by omega⟩,if_pos trivial]
def avT{t tx e:TypeId}{i:TypeInfo}{z:Value}{b:AV}{m:Nat}{ns:List AV}(ht:P.underlying t=some (.slice e))(hi:P.info? e=some i)(hz:i.zero=some z)(axO:∀s,Wt P s i.size tx b=some (m,ns))(hm:m≠0)(ho:ns.all one=true)(hb:m*i.bytes<=140737488355328)(hl:m<=9223372036854775807)(s:AS):avF P G t tx (.sl .full 0 []) b s (.msl s.nx 0 m) (s.new (.cells ns)):=by
 intro c w va vb ty hs ha hbv;obtain⟨news,hnr,hnl,hsi⟩:=bU hs (axO s) hbv
 have oE:∃A,va=.slice A 0 0:=by
   cases ha with
   | @sl0 _ A cap h0=>have:cap=0:=h0;subst this;exact⟨A,rfl⟩
   | @KM _ _ cap g o _ hn hc ho=>have:cap=0:=ho;subst this;exact⟨_,rfl⟩
 obtain⟨A,rfl⟩:=oE
 have hold:(Builtin.firstCells i.size 0 (.slice A 0 0)).run P { w with drawn:=w.drawn+1 }=.ok ([]:List Value).toArray { w with drawn:=w.drawn+1 }:=by
   cases A with
   | none=>simp[Builtin.firstCells]
   | some a=>simp[Builtin.firstCells,loadCells,loadCellsFrom]
 obtain⟨cap',X7,Q1⟩:=Qo (ty:=ty) ht hi hz hsi hold (by omega) (by omega) (by rw[Nat.zero_add];exact hb);rw[Nat.zero_add] at X7 Q1;obtain⟨x1,st1⟩:=hs.same (w':={ w with drawn:=w.drawn+1 }) ⟨rfl,rfl,rfl,Nat.le_refl _,λ_ _ _=>rfl⟩
 have hbk:Fh c { w with drawn:=w.drawn+1 } (.cells ns) (.cells (news++(Builtin.zeroCells z.cells (cap' - m)).toList).toArray e (0,0)):=.Hs _ (hnr.mono x1)
 obtain⟨x2,T8⟩:=st1.new hbk
 have he:(([]++news).toArray++Builtin.zeroCells z.cells (cap' - m))=(news++(Builtin.zeroCells z.cells (cap' - m)).toList).toArray:=by
   apply Array.ext';simp
 rw[he] at Q1;exact⟨_,_,_,Q1,x1.trans x2,T8,.msl X7 (by simp[hs.len])⟩
def pga{s:AS}{t tx:TypeId}{a b:AV}(h:Cd.ok P G (.T7 s t tx a b a s)):PC P G:=⟨.a a s,[.T7 s t tx a b a s],⟨h,trivial⟩⟩
def aMW{s:AS}{t tx:TypeId}{a b:AV}(h:Cd.ok P G (.T7 s t tx a b a s)):PC P G:=⟨.ae a,[.T7 s t tx a b a s],⟨h,trivial⟩⟩
end
end AI
namespace AI
open Go Go.RowKit
def atA:Nat->Nat->List Nat->List Nat
 | 0,_,acc=>acc
 | k+1,n,acc=>match Nat.ble n 1 with
   | true=>acc
   | false=>atA k (n / 2) (n % 2::acc)
def sb(c:Code)(n:Nat):Code:=sub c (atA 200 n [])
def wk1(a:AV):AV->AV
 | .any=>nN a
 | .sl .lost _ _=>(match a with
   | .sl _ n cs=>.sl .lost n cs
   | a=>a)
 | _=>a
def aAZ{c:Cx}{w:World}{a b:AV}{v:Value}(hr:Rp c w a v):Rp c w (wk1 a b) v:=by
 unfold wk1;split;exact wV hr;split;cases hr with
 | sl0 _=>exact .sl0 trivial
 | KM hn hc _=>exact .KM hn hc trivial
 exact hr;exact hr
def wkF:List AV->List AV->List AV
 | a::l,b::k=>wk1 a b::wkF l k
 | l,_=>l
def RY{c:Cx}{w:World}:∀{l k:List AV} {vs:List Value},CH c w l vs->CH c w (wkF l k) vs
 | [],k,_,h=>by cases k<;>exact h
 | a::l,[],_,h=>h
 | a::l,b::k,_,h=>by cases h with | cons h1 t=>exact .cons (aAZ h1) (RY t)
def pL(n:Nat):AV->Bool
 | .fn _ a b=>yD a&&yD b
 | a=>obv n a
where
 yD:List AV->Bool
   | []=>true
   | a::l=>obv n a&&yD l
def W9{n m:Nat}:∀{l:List AV},pL.yD n l=true->FC n m l=true
 | [],_=>rfl
 | a::l,h=>by
   simp only[pL.yD,Bool.and_eq_true] at h;simp only[FC,Bool.and_eq_true];refine⟨?_,W9 h.2⟩;have h1:=h.1;cases a<;>simp only[obv] at h1<;>first | rfl | (cases h1;done) | exact decide_eq_true (Nat.le_of_ble_eq_true h1)
def aoM{n m:Nat}{a:AV}(h:pL n a=true):Fits n m a a:=by
 cases a with
 | fn f a b =>
   simp only[pL,Bool.and_eq_true] at h;exact .under (by simp only[under,Bool.and_eq_true];exact⟨W9 h.1,W9 h.2⟩)
 | _=>exact agG h
def pB(r:List AV->MR)(n:Nat)(a:AV)(bs:List AV):MR:=match pL n a with
 | true=>Z9 a (r bs)
 | false=>none
def Zw(n:Nat):List AV->List AV->List AV->MR
 | [],_,[]=>some ([],[])
 | [],_,_::_=>none
 | a::l,[],bs=>aA (Zw n l []) a bs
 | a::l,b::k,bs=>match RF b with
   | true=>aA (Zw n l k) a bs
   | false=>(match pL n b with
     | true=>pB (Zw n l k) n a bs
     | false=>aoD (Zw n l k) a bs)
def xW{n m:Nat}{r:List AV->MR}{l:List AV}(hr:∀(fps:List (FP n m)) l2,r (Zf fps)=some (l2,fK fps)->Jp n m l l2){a:AV}{fps:List (FP n m)}{l2:List AV}(h:pB r n a (Zf fps)=some (l2,fK fps)):Jp n m (a::l) l2:=by
 unfold pB at h;split at h;rename_i ho;unfold Z9 at h;split at h;rename_i l3 as h1;cases h;exact .cons (aoM ho) (hr fps _ h1);cases h;cases h
def aoI{n m:Nat}:∀{l k:List AV} {fps:List (FP n m)} {l2:List AV},Zw n l k (Zf fps)=some (l2,fK fps)->Jp n m l l2:=by
 intro l
 induction l with
 | nil =>
   intro k fps l2 h;cases fps with
   | nil=>simp only[Zf,Zw] at h;cases h;exact .nil
   | cons p fps=>simp only[Zf,Zw] at h;cases h
 | cons a l ih =>
   intro k fps l2 h;cases k with
   | nil=>simp only[Zw] at h;exact UA (λfps l2 h=>ih h) h
   | cons b k =>
     simp only[Zw] at h;split at h;exact UA (λfps l2 h=>ih h) h;split at h;exact xW (λfps l2 h=>ih h) h;exact tK (λfps l2 h=>ih h) h
abbrev FO(n m:Nat):=Option (FB n m)
def foA{n m:Nat}:List (FO n m)->List (Option AL)
 | []=>[]
 | none::l=>none::foA l
 | some p::l=>some p.a::foA l
def nV{n m:Nat}:List (FO n m)->List (Option AL)
 | []=>[]
 | none::l=>none::nV l
 | some p::l=>some p.b::nV l
def aMT(n:Nat):AL->Bool
 | .cells cs=>pL.yD n cs
 | _=>false
abbrev BO:=Option (List (Nat×AL)×List (Option AL))
def tW(id:Nat)(a:Option AL)(b:AL):BO->BO
 | some (l,as)=>some ((id,b)::l,a::as)
 | none=>none
def Zm(n:Nat):List (Nat×AL)->List (Option AL)->BO
 | [],[]=>some ([],[])
 | e::l,none::bs=>(match aMT n e.2 with
   | true=>tW e.1 none e.2 (Zm n l bs)
   | false=>none)
 | e::l,some b::bs=>tW e.1 (some e.2) b (Zm n l bs)
 | _,_=>none
def alU{n m:Nat}:∀{l:List (Nat×AL)} {fbs:List (FO n m)} {l2:List (Nat×AL)},Zm n l (nV fbs)=some (l2,foA fbs)->(∀k,Jo l k->Jo l2 k)/\∀id b,look id l2=some b->∃b',look id l=some b'/\QF n m b' b:=by
 intro l
 induction l with
 | nil =>
   intro fbs l2 h;cases fbs with
   | nil=>simp only[nV,Zm] at h;cases h;exact⟨λ_ _=>trivial,λid b h=>by cases h⟩
   | cons p fbs=>cases p<;>(simp only[nV,Zm] at h;cases h)
 | cons e l ih =>
   intro fbs l2 h
   have fin:∀{fbs:List (FO n m)} {l3:List (Nat×AL)} {b2:AL},Zm n l (nV fbs)=some (l3,foA fbs)->QF n m e.2 b2->(∀k,Jo (e::l) k->Jo ((e.1,b2)::l3) k)/\∀id b,look id ((e.1,b2)::l3)=some b->∃b',look id (e::l)=some b'/\QF n m b' b:=by
     intro fbs l3 b2 h1 hf;obtain⟨hd,hl⟩:=ih h1;refine⟨λk hk=>⟨hk.1,hd _ hk.2⟩,λid b hb=>?_⟩;simp only[look] at hb ⊢;split at hb;cases hb;exact⟨e.2,rfl,hf⟩;exact hl id b hb
   cases fbs with
   | nil=>simp only[nV,Zm] at h;cases h
   | cons p fbs =>
     cases p with
     | none =>
       simp only[nV,Zm] at h;split at h;rename_i ho;unfold tW at h;split at h;rename_i l3 as h1;simp only[foA,Option.some.injEq,Prod.mk.injEq,List.cons.injEq,true_and] at h;obtain⟨rfl,rfl⟩:=h;refine fin h1 ?_;cases he:e.2 with
       | cells cs=>rw[he] at ho;exact .cells (.under (W9 ho))
       | _=>rw[he] at ho;cases ho
       cases h;cases h
     | some p =>
       simp only[nV,Zm] at h;unfold tW at h;split at h;rename_i l3 as h1;simp only[foA,Option.some.injEq,Prod.mk.injEq,List.cons.injEq] at h;obtain⟨rfl,h2,rfl⟩:=h;exact fin h1 (by rw[h2];exact p.h);cases h
abbrev RO2:=Option (List AV×AS×List AV×List (Option AL))
def agX(qR:List AV)(n m:Nat)(fr':List AV)(s':AS)(bs:List AV)(cs:List (Option AL)):RO2 :=
 match Zw n fr' qR bs with
 | some (fr2,as)=>(match Zm n (SY n s'.h) cs with
   | some (h2,cas)=>some (fr2,⟨h2,n,V5 m s'.F,m⟩,as,cas)
   | none=>none)
 | none=>none
section
variable {P:Program} {G:A8}
def eE(hG:∀g cs,G g=some cs->BC cs=true){qR:List AV}{s0:AS}{fr':List AV}{s':AS}{fps:List (FP s0.nx s0.nr)}{fbs:List (FO s0.nx s0.nr)}{fr2:List AV}{s2:AS}(h:agX qR s0.nx s0.nr fr' s' (Zf fps) (nV fbs)=some (fr2,s2,fK fps,foA fbs)):vV G s0 fr' s' fr2 s2:=by
 unfold agX at h;split at h;rename_i f1 as hm;split at h;rename_i h1 cas hb;simp only[Option.some.injEq,Prod.mk.injEq] at h;obtain⟨rfl,rfl,rfl,rfl⟩:=h;intro cx w c' w' vs hx hs hs' hfr;obtain⟨hd,hl⟩:=alU hb;refine amS (s:=s0) (s2:=⟨h1,s0.nx,V5 s0.nr s'.F,s0.nr⟩) hG rfl rfl (hd _ (gX hs'.desc)) (λid b hb=>?_) (λr n hr=>iA hr) (aoI hm) cx w c' w' vs hx hs hs' hfr;obtain⟨b',h3,h4⟩:=hl id b hb;exact⟨b',Tp hs'.desc h3,h4⟩;cases h;cases h
def vV.wk{s0 s':AS}{fr' k:List AV}:vV G s0 fr' s' (wkF fr' k) s':=λ_ _ c' _ _ hx _ hs' hfr=>⟨c',hx,hs',RY hfr⟩
def qE(qR:List AV):HR->Option (AX×List Cd×List AV×AS)
 | some (.fin e,[],cd,fr,s)=>some (e,cd,wkF fr qR,s)
 | _=>none
def Jw{r:HR}{X:Prop}{L:Code}{s0:AS}{Q:AX->List AV->AS->Prop}{l:List (PC P G)}{fr2:List AV}{s2:AS}(R:Ue P G l (RT P G L s0 Q) r X)(h:qE fr2 r=some (.normal,fQ l,fr2,s2))(k:WL P G (XS P G) H0 L fr2 s2 Q):X:=by
 unfold qE at h;split at h;simp only[Option.some.injEq,Prod.mk.injEq] at h;obtain⟨rfl,rfl,h3,rfl⟩:=h;exact R _ _ _ _ rfl (NC l) ⟨_,_,h3▸vV.wk,k⟩;cases h
def E7{r:HR}{X:Prop}{L:Code}{s0:AS}{Q:AX->List AV->AS->Prop}{l:List (PC P G)}{id:Nat}{fr2:List AV}{s2:AS}(R:Ue P G l (RT P G L s0 Q) r X)(h:qE fr2 r=some (.exit id,fQ l,fr2,s2))(k:Q (.exit id) fr2 s2):X:=by
 unfold qE at h;split at h;simp only[Option.some.injEq,Prod.mk.injEq] at h;obtain⟨rfl,rfl,h3,rfl⟩:=h;exact R _ _ _ _ rfl (NC l) ⟨_,_,h3▸vV.wk,k⟩;cases h
def auR(qR:List AV)(n m:Nat)(bs:List AV)(cs:List (Option AL)):HR->Option (AX×List Cd×List AV×AS×List AV×List (Option AL))
 | some (.fin e,[],cd,fr,s)=>(match agX qR n m fr s bs cs with
   | some (fr2,s2,as,cas)=>some (e,cd,fr2,s2,as,cas)
   | none=>none)
 | _=>none
def IC(hG:∀g cs,G g=some cs->BC cs=true){r:HR}{X:Prop}{L:Code}{s0:AS}{Q:AX->List AV->AS->Prop}{l:List (PC P G)}(fps:List (FP s0.nx s0.nr))(fbs:List (FO s0.nx s0.nr)){fr2:List AV}{s2:AS}(R:Ue P G l (RT P G L s0 Q) r X)
   (h:auR fr2 s0.nx s0.nr (Zf fps) (nV fbs) r=some (.normal,fQ l,fr2,s2,fK fps,foA fbs)) (k:WL P G (XS P G) H0 L fr2 s2 Q):X:=by
 unfold auR at h;split at h;split at h;rename_i h1;simp only[Option.some.injEq,Prod.mk.injEq] at h;obtain⟨rfl,rfl,rfl,rfl,rfl,rfl⟩:=h;exact R _ _ _ _ rfl (NC l) ⟨_,_,eE hG h1,k⟩;cases h;cases h
def aEU(n m0:Nat)(P:Program)(fn:Func)(m:Nat)(e0:AX)(qR bs:List AV)(cs:List (Option AL)):HR->Option (AX×List Cd×List AV×AS×List AV×List (Option AL))
 | some (.fin e,[],cd,fr,s)=>(match GB P s fn fr with
   | some v=>(match agX qR n m0 [v] (s.cut m) bs cs with
     | some (fr2,s2,as,cas)=>some (e,cd,fr2,s2,as,cas)
     | none=>none)
   | none=>none)
 | _=>none
def Au(hG:∀g cs,G g=some cs->BC cs=true){r:HR}{X:Prop}{s0:AS}{Q:AX->List AV->AS->Prop}(fn:Func)(m:Nat){l:List (PC P G)}(fps:List (FP s0.nx s0.nr))(fbs:List (FO s0.nx s0.nr)){v:AV}{s2:AS}(R:Ue P G l Q r X)
   (h:aEU s0.nx s0.nr P fn m .ret [v] (Zf fps) (nV fbs) r=some (.ret,fQ l,[v],s2,fK fps,foA fbs)) (k:PZ P G fn m s0 Q v s2):X:=by
 unfold aEU at h;split at h;split at h;rename_i v' hv;split at h;rename_i h1;simp only[Option.some.injEq,Prod.mk.injEq] at h;obtain⟨rfl,rfl,rfl,rfl,rfl,rfl⟩:=h;exact R _ _ _ _ rfl (NC l) (k _ _ (eE hG h1) _ _ hv rfl);cases h;cases h;cases h
def aBM(z:List NZ)(qR:List AV):HR->Option (List Cd×Nat×Code×List KI×List AV×AS)
 | some (.at id c ks,[],cd,fr,s)=>(match nzs z fr s with
   | some (fr2,s2)=>some (cd,id,c,ks,wkF fr2 qR,s2)
   | none=>none)
 | _=>none
def IV{r:HR}{X:Prop}{Q:AX->List AV->AS->Prop}{l:List (PC P G)}(z:List NZ)(id:Nat)(L:Code)(QL:List KI){fr2:List AV}{s2:AS}(R:Ue P G l Q r X)
   (h:aBM z fr2 r=some (fQ l,id,L,QL,fr2,s2)) (k:WL P G (XS P G) H0 L fr2 s2 (Di id (CY P G QL Q))):X:=by
 unfold aBM at h;split at h;split at h;rename_i fr3 s3 hz;simp only[Option.some.injEq,Prod.mk.injEq] at h;obtain⟨rfl,rfl,rfl,rfl,h5,rfl⟩:=h;refine R _ _ _ _ rfl (NC l) ?_;obtain⟨e3,fr4,s4,h3,h4⟩:=k;refine⟨e3,fr4,s4,.avD (λcx w vs hs hr=>?_) h3,h4⟩;obtain⟨c2,x2,T8,r2⟩:=pJ hz cx w vs hs hr;exact⟨c2,x2,T8,h5▸RY r2⟩;cases h;cases h
def jv(j:List Value)(k:Nat):Value:=azA j k
def hdv(p:Nat):List (Nat×Value)->Option Value
 | []=>none
 | e::_=>(match Nat.beq e.1 p with | true=>some e.2 | false=>none)
def jsN(j:List Value)(l:List (Nat×Value))(k:Nat):Nat->List Value
 | 0=>[]
 | n+1=>(match hdv k l with
   | some v=>v::jsN j (l.drop 1) (k+1) n
   | none=>jv j k::jsN j l (k+1) n)
def js(n:Nat)(j:List Value)(l:List (Nat×Value)):List Value:=jsN j l 0 n
def frQ:Nat->Nat->List (Nat×AV)->List Nat->Nat->List Value->List AV
 | 0,_,_,_,_,_=>[]
 | n+1,p,l,bs,kb,j=>(match frm.hd1 p l with
   | some v=>v::frQ n (p+1) (l.drop 1) bs kb j
   | none=>(match frm.hd2 p bs with
     | true=>.sc (jv j kb)::frQ n (p+1) l (bs.drop 1) (kb+1) j
     | false=>.any::frQ n (p+1) l bs kb j))
def fr(n:Nat)(l:List (Nat×AV))(bs:List Nat)(j:List Value):List AV:=frQ n 0 l bs 0 j
def exR{δ:Type}(Q:AX->List AV->AS->Prop)(id:Nat)(F:δ->List Value->List AV)(S:δ->AS)(d:δ):Prop:=∀j,Q (.exit id) (F d j) (S d)
section loops
variable {α γ δ ρ β:Type} {id:Nat} {L:Code} {QL:List KI} {Q:AX->List AV->AS->Prop} {done:γ->δ} {X:Prop} {k:δ->Option β} {kr:ρ->Option β} {r:β}
def Rl(Rv:(AX->List AV->AS->Prop)->ρ->Prop){body:Nat->α->γ->Option (Lp γ δ ρ)}{l:List α}{i0:Nat}{x:γ}(F:Nat->γ->List Value->List AV)(S:γ->AS)(XF:δ->List Value->List AV)(SX:δ->AS)(j:List Value)
   (SE:WL P G (XS P G) H0 L (F i0 x j) (S x) (Di id (CY P G QL Q))->X)
   (hz:∀i x j,l.length<=i->exR (Di id (CY P G QL Q)) id XF SX (done x)->W P G (XS P G) H0 L (F i x j) (S x) (RT P G L (S x) (Di id (CY P G QL Q))))
   (hs:∀i y x j r,l[i]?=some y->i < l.length->i < 9223372036854775807->RQ (λx'=>∀j',WL P G (XS P G) H0 L (F (i+1) x' j') (S x') (Di id (CY P G QL Q))) (exR (Di id (CY P G QL Q)) id XF SX) (Rv (Di id (CY P G QL Q))) r->body i y x=some r->W P G (XS P G) H0 L (F i x j) (S x) (RT P G L (S x) (Di id (CY P G QL Q))))
   (hb:∀d j,k d=some r->CY P G QL Q .normal (XF d j) (SX d)) (hr:∀v,kr v=some r->Rv (Di id (CY P G QL Q)) v) :
   (Lk l.length (CX body done (l.drop i0) i0 x)).bind (N4 k kr)=some r->X:=λh=>by
 obtain⟨res,h1,h2⟩:=Zl h;obtain⟨hl,h1⟩:=aoA h1;refine SE (alJ l F (λ_ x _=>S x) (λ_=>True) (exR (Di id (CY P G QL Q)) id XF SX) (Rv (Di id (CY P G QL Q))) (λi x j _ h3 h4=>Vc (hz i x j h3 h4)) (λi y x j r _ h3 h4 h5 h6=>Vc (hs i y x j r h3 h4 (by omega) (by cases r with | nx _=>exact λj'=>h6 j' trivial | ex _=>exact h6 | rt _=>exact h6) h5)) i0 h1 ?_ j trivial)
 cases res with
 | inl d =>
   intro j;show CY P G QL Q (D8 id (.exit id)) _ _;rw[show D8 id (.exit id)=.normal from by simp[D8]];exact hb d j h2
 | inr v=>exact hr v h2
def Ve(Rv:(AX->List AV->AS->Prop)->ρ->Prop){body:γ->Option (Lp γ δ ρ)}{x:γ}(F:γ->List Value->List AV)(S:γ->AS)(XF:δ->List Value->List AV)(SX:δ->AS)(j:List Value)
   (SE:WL P G (XS P G) H0 L (F x j) (S x) (Di id (CY P G QL Q))->X)
   (hs:∀x j r,RQ (λx'=>∀j',WL P G (XS P G) H0 L (F x' j') (S x') (Di id (CY P G QL Q))) (exR (Di id (CY P G QL Q)) id XF SX) (Rv (Di id (CY P G QL Q))) r->body x=some r->W P G (XS P G) H0 L (F x j) (S x) (RT P G L (S x) (Di id (CY P G QL Q))))
   (hb:∀d j,k d=some r->CY P G QL Q .normal (XF d j) (SX d)) (hr:∀v,kr v=some r->Rv (Di id (CY P G QL Q)) v) :
   (P7 body x).bind (N4 k kr)=some r->X:=λh=>by
 obtain⟨res,h1,h2⟩:=Zl h;obtain⟨n,h1⟩:=amQ h1;refine SE (alK F (λx _=>S x) (λ_=>True) (exR (Di id (CY P G QL Q)) id XF SX) (Rv (Di id (CY P G QL Q))) (λx j r _ h5 h6=>Vc (hs x j r (by cases r with | nx _=>exact λj'=>h6 j' trivial | ex _=>exact h6 | rt _=>exact h6) h5)) n h1 ?_ j trivial)
 cases res with
 | inl d =>
   intro j;show CY P G QL Q (D8 id (.exit id)) _ _;rw[show D8 id (.exit id)=.normal from by simp[D8]];exact hb d j h2
 | inr v=>exact hr v h2
end loops
def HY{ks:List KI}{fr:List AV}{s:AS}{Q:AX->List AV->AS->Prop}(n:Nat)(l:List (PC P G)):Ue P G l Q (QY (SD P G n) ks .normal (pHs l) fr s) (CY P G ks Q .normal fr s):=λ_ _ _ _ h hc hk=>cP (cR n) ks _ h hc hk
def pi{i:Nat}(h:i < 9223372036854775807):PC P G:=aMX i h
def bp{n m:Nat}{a:List AV}(h:BC a=true):FO n m:=some ⟨.cells a,.cells a,.cells (.plain h)⟩
def bu{n m:Nat}(a:List AV)(h:FC n m a=true):FO n m:=some ⟨.cells a,.cells a,.cells (.under h)⟩
def bw{n m:Nat}(a b:AL)(h:QF n m a b):FO n m:=some ⟨a,b,h⟩
def pure_nil{f:FuncId}{n:Nat}{cs:List AV}{v:AV}(h1:n=0->cs=[]->Pure P G f [.sl .nil 0 []] v)(h2:Pure P G f [.sl .nn n cs] v):Pure P G f [.sl .lost n cs] v:=λs cx w vs hs ha=>by
 cases ha with
 | cons h t =>
   cases h with
   | @sl0 _ A cap _ =>
     cases hA:A.isNone with
     | true=>exact h1 rfl rfl s cx w _ hs (.cons (.sl0 hA) t)
     | false=>exact h2 s cx w _ hs (.cons (.sl0 hA) t)
   | KM hn hc _=>exact h2 s cx w _ hs (.cons (.KM hn hc trivial) t)
def aEO{n:Nat}{l:List AV}(h:BC l=true):plain (.sl .nn n l)=true:=by simp only[plain,h];rfl
end
end AI
namespace AI
open Go Go.RowKit
section
variable {P:Program} {G:A8}
def rA(G:A8)(s:AS)(a v:AV):Prop:=∀(c:Cx) (w:World) (u:Value),St G c w s->(∀g,some g∈c.CT->∀i,¬c.bad g i)->Rp c w a u->Rp (c.upto 0 0) w v u
inductive Fz(s:AS):List AV->List AV->Prop where
 | nil:Fz s [] []
 | r {a b:AV} {l k:List AV} (h:Fits 0 0 a b) (t:Fz s l k):Fz s (a::l) (b::k)
 | f {id n:Nat} {cs l k:List AV} (h:s.get id=some (.cells cs)) (hp:BC cs=true) (t:Fz s l k):Fz s (.msl id 0 n::l) (.sl .lost n cs::k)
 | g {cs ds l k:List AV} (h:Fz s cs ds) (t:Fz s l k):Fz s (.agg cs::l) (.agg ds::k)
 | u {cs ds l k:List AV} (h:Fz s cs ds) (t:Fz s l k):Fz s (.Dd cs::l) (.Dd ds::k)
def Fz.ok{s:AS}{c:Cx}{w:World}(hs:St G c w s)(hb:∀g,some g∈c.CT->∀i,¬c.bad g i){l k:List AV}(h:Fz s l k):∀{us:List Value},CH c w l us->CH (c.upto 0 0) w k us:=by
 induction h with
 | nil=>intro us hr;cases hr;exact .nil
 | r h _ ih=>intro us hr;cases hr with | cons h1 t=>exact .cons (h _ _ _ h1) (ih t)
 | @f id n cs l k h hp _ ih =>
   intro us hr;cases hr with
   | cons h1 t =>
     refine .cons ?_ (ih t);cases h1 with
     | @msl _ _ _ g cap hn hid =>
       obtain⟨vs,ext,T,hw,hv⟩:=Pd hs hid h;have hg:=List.mem_of_getElem? hid
       have IB:∀g i v,LG c w g i v->LG (c.upto 0 0) w g i v:=λg i v hv=>⟨hv.1,λGG=>by
         rcases GG with GG | ⟨r,n',cap',M4,hr,_⟩ | GG
         simp[Cx.upto] at GG;simp[Cx.upto] at hr;exact hv.2.1 (.inr (.inr GG)),hv.2.2⟩
       refine .KM hn (Bc.On (CH.plain IB hp hv) (λi v hi=>?_)) trivial;rw[Nat.zero_add];refine⟨hs.Md g hg,λGG=>?_,cell_of_heap hw (R5 hi)⟩;rcases GG with GG | ⟨r,n',cap',M4,hr,_⟩ | GG
       simp[Cx.upto] at GG;simp[Cx.upto] at hr;exact hb g hg i GG
 | g _ _ jA oR=>intro us hr;cases hr with | cons h1 t=>cases h1 with | agg h2=>exact .cons (.agg (jA h2)) (oR t)
 | u _ _ jA oR=>intro us hr;cases hr with | cons h1 t=>cases h1 with | Dd h2=>exact .cons (.Dd (jA h2)) (oR t)
def rA.of{s:AS}{a v:AV}(h:Fz s [a] [v]):rA G s a v:=λc w u hs hb hr=>by
 have:=h.ok hs hb (.cons hr .nil);cases this with
 | cons h1 _=>exact h1
def aMY{t tx:TypeId}{a b:AV}{n:Nat}{m:AL}(h:Cd.ok P G (.apB t tx a b n m)):PC P G:=⟨.mb n m,[.apB t tx a b n m],⟨h,trivial⟩⟩
def N2.apm{α:Type}{f:α->List AV}{C:List α->List AV}{k:Nat}(h:N2 f C k){t tx e e2 by':Nat}(hu:P.underlying t=some (.slice e))(hux:P.underlying tx=some (.slice e2))(hi:(P.info? e).map (λi=>(i.size,i.bytes,i.zero.map (·.cells.size)))=some (k,by',some k))(hk:0 < k)(hb:by'<=10000)(h1:∀x,(f x).all one=true)
   (m:List α) {o:Own} (hm:¬m.length=0) (hlen:m.length<=100000000):Cd.ok P G (.apB t tx (.sl .full 0 []) (.sl o m.length (C m)) m.length (.cells (C m))):=by
 cases hq:P.info? e with
 | none=>rw[hq] at hi;cases hi
 | some i =>
   rw[hq] at hi;simp only[Option.map_some,Option.some.injEq,Prod.mk.injEq] at hi;obtain⟨h3,h4,h5⟩:=hi;cases hz:i.zero with
   | none=>rw[hz] at h5;cases h5
   | some z =>
     intro s;refine avT hu hq hz (λs=>?_) hm (h.mZ h1 m) (by rw[h4];exact Nat.le_trans (Nat.mul_le_mul hlen hb) (by decide)) (by omega) s;unfold Wt;rw[hux,h3];simp only[h.eq,Is h.len,if_true]
end
end AI
namespace AI
open Go
end AI
namespace AI
open Go Go.RowKit
end AI
namespace AI
open Go Go.RowKit
abbrev EW:=Cx->World->Prop
abbrev QE:=AX->List AV->AS->EW->Prop
def EOk(e:AX)(fr:List AV)(c:Cx)(w:World)(e':Exit)(a:Act):Prop:=match e with
 | .normal=>e'=.normal/\CH c w fr a.tmps.toList
 | .exit id=>e'=.exit id/\CH c w fr a.tmps.toList
 | .ret=>e'=.ret/\CH c w fr a.tmps.toList
 | .pan v=>∃u,e'=.panic [{ v:=u,recovered:=false }]/\Rp c w v u
def EPost(G:A8)(Q:QE)(K:Exit->Act->World->Prop):Prop:=∀e fr s E,Q e fr s E->∀(cx:Cx) (w:World) (a:Act) (e':Exit),E cx w->St G cx w s->a.defers=[]->EOk e fr cx w e' a->K e' a w
def WE(P:Program)(G:A8)(E:EW)(c:Code)(fr:List AV)(s:AS)(Q:QE):Prop:=∀(cx:Cx) (w:World) (a:Act) (K:Exit->Act->World->Prop),E cx w->St G cx w s->CH cx w fr a.tmps.toList->a.defers=[]->EPost G Q K->c.wp P K a w
def O5(P:Program)(G:A8)(E:EW)(ops:Array Oper)(l:List Nat)(fr:List AV)(s:AS)(Q:QE):Prop:=∀(cx:Cx) (w:World) (a:Act) (K:Exit->Act->World->Prop),E cx w->St G cx w s->CH cx w fr a.tmps.toList->a.defers=[]->EPost G Q K->wpOps P ops K l a w
def Ua(E:EW):Prop:=∀(cx:Cx) (w:World) (QX:Cx) (w':World),E cx w->Ext cx w QX w'->E QX w'
def EOk.Px{e:AX}{fr:List AV}{c:Cx}{w:World}{e':Exit}{a:Act}(h:EOk e fr c w e' a)(he:e≠.normal):e'≠.normal:=by
 cases e with
 | normal=>exact absurd rfl he
 | exit id=>intro h5;rw[h.1] at h5;cases h5
 | ret=>intro h5;rw[h.1] at h5;cases h5
 | pan v=>obtain⟨u,h5,_⟩:=h;intro h6;rw[h5] at h6;cases h6
section
variable {P:Program} {G:A8} {E:EW} {fr:List AV} {s:AS} {Q:QE}
def WE.of(hm:P.follows .mixedOrders=true)(hk:Ua E){c:Code}{Q0:AX->List AV->AS->Prop}(h:W P G (XS P G) H0 c fr s Q0)(hQ:∀e fr' s',Q0 e fr' s'->Q e fr' s' E):WE P G E c fr s Q:=by
 obtain⟨e,fr',s',hj,hq⟩:=h;have hS:=sound (Rz hm) hj;intro cx w a K hE hs hf hd hK;refine hS cx w a K hs hf hd ?_;rintro e' a' w' ⟨c',hx,hs',QZ,h4⟩;refine hK e fr' s' E (hQ _ _ _ hq) c' w' a' e' (hk _ _ _ _ hE hx) hs' QZ ?_;cases e<;>exact h4
def WE.seq{x y:Code}(h:WE P G E x fr s (λe fr' s' E'=>(e=.normal/\WE P G E' y fr' s' Q)\/(e≠.normal/\Q e fr' s' E'))):WE P G E (.seq x y) fr s Q:=by
 intro cx w a K hE hs hf hd hK;refine wp_seq (h cx w a _ hE hs hf hd ?_);rintro e fr' s' E' hq QX w' a' e' iI hs' QZ RB;rcases hq with ⟨rfl,h2⟩ | ⟨hne,hq⟩
 obtain⟨rfl,iR⟩:=RB;exact h2 QX w' a' K iI hs' iR QZ hK;exact UM (RB.Px hne) (hK _ _ _ _ hq _ _ _ _ iI hs' QZ RB)
def WE.cond{q:Operand}{x y:Code}{t:Bool}(hq:Ba G fr q=some (.sc (.bool t)))(h:WE P G E (if t then x else y) fr s Q):WE P G E (.cond q x y) fr s Q:=by
 intro cx w a K hE hs hf hd hK;have hr:=Ew hs hf hq
 have IS:a.eval q=.bool t:=by
   generalize a.eval q=v at hr;cases hr;rfl
 exact wp_cond IS (h cx w a K hE hs hf hd hK)
def WE.skip(h:Q .normal fr s E):WE P G E .skip fr s Q:=λcx w a K hE hs hf hd hK=>wp_skip (hK _ _ _ _ h cx w a _ hE hs hd ⟨rfl,hf⟩)
def WE.exit{id:Nat}(h:Q (.exit id) fr s E):WE P G E (.exit id) fr s Q:=λcx w a K hE hs hf hd hK=>wp_exit (hK _ _ _ _ h cx w a _ hE hs hd ⟨rfl,hf⟩)
def WE.block{id:Nat}{c:Code}(h:WE P G E c fr s (λe fr' s' E'=>Q (D8 id e) fr' s' E')):WE P G E (.block id c) fr s Q:=by
 intro cx w a K hE hs hf hd hK;refine wp_block (h cx w a _ hE hs hf hd ?_);rintro e fr' s' E' hq QX w' a' e' iI hs' QZ h4;cases e with
 | normal=>obtain⟨rfl,h5⟩:=h4;exact hK _ _ _ _ hq QX w' a' _ iI hs' QZ ⟨rfl,h5⟩
 | exit QK =>
   obtain⟨rfl,h5⟩:=h4;show if QK=id then K .normal a' w' else K (.exit QK) a' w'
   by_cases hid:QK=id;rw[if_pos hid];refine hK _ _ _ _ hq QX w' a' _ iI hs' QZ ?_;simp only[D8,hid,if_true];exact⟨rfl,h5⟩;rw[if_neg hid];refine hK _ _ _ _ hq QX w' a' _ iI hs' QZ ?_;simp only[D8,hid,if_false];exact⟨rfl,h5⟩
 | ret=>obtain⟨rfl,h5⟩:=h4;exact hK _ _ _ _ hq QX w' a' _ iI hs' QZ ⟨rfl,h5⟩
 | pan v=>obtain⟨u,rfl,h5⟩:=h4;exact hK _ _ _ _ hq QX w' a' _ iI hs' QZ ⟨u,rfl,h5⟩
def WE.loop{L:Code}(I:Nat->List AV->AS->EW->Prop)(h:∀m fr s E,I m fr s E->WE P G E L fr s (λe fr' s' E'=>(e=.normal/\∃m',m' < m/\I m' fr' s' E')\/(e≠.normal/\Q e fr' s' E'))){m:Nat}(hi:I m fr s E):WE P G E (.loop L) fr s Q:=by
 have key:∀(n m:Nat) (fr:List AV) (s:AS) (E:EW),m < n->I m fr s E->∀(cx:Cx) (w:World) (a:Act) (K:Exit->Act->World->Prop),E cx w->St G cx w s->CH cx w fr a.tmps.toList->a.defers=[]->EPost G Q K->Code.rounds P L K n a w:=by
   intro n
   induction n with
   | zero=>intro m fr s E hm;omega
   | succ n ih =>
     intro m fr s E hm hi cx w a K hE hs hf hd hK;rw[rounds_succ];refine h m fr s E hi cx w a _ hE hs hf hd ?_;rintro e fr' s' E' hq QX w' a' e' iI hs' QZ RB;rcases hq with ⟨rfl,m',hm',O7⟩ | ⟨hne,hq⟩
     obtain⟨rfl,iR⟩:=RB;exact ih m' fr' s' E' (by omega) O7 QX w' a' K iI hs' iR QZ hK;exact UM (RB.Px hne) (hK _ _ _ _ hq _ _ _ _ iI hs' QZ RB)
 intro cx w a K hE hs hf hd hK;exact wp_loop_rounds (m+1) (key (m+1) m fr s E (Nat.lt_succ_self m) hi cx w a K hE hs hf hd hK)
def WE.region{id:Nat}{ops:Array Oper}(h:O5 P G E ops (List.range ops.size) fr s Q):WE P G E (.region id ops false) fr s Q:=λcx w a K hE hs hf hd hK=>wp_region (h cx w a K hE hs hf hd hK)
def O5.nil{ops:Array Oper}(h:Q .normal fr s E):O5 P G E ops [] fr s Q:=λcx w a K hE hs hf hd hK=>hK _ _ _ _ h cx w a .normal hE hs hd ⟨rfl,hf⟩
def O5.op(hm:P.follows .mixedOrders=true)(hk:Ua E){ops:Array Oper}{i:Nat}{l:List Nat}{o:Oper}(v:AV){s1:AS}(ho:ops[i]?=some o)(hj:J P G (XS P G) H0 (.op ops o fr s (.ret v) s1))(t:O5 P G E ops l (IJ fr o.dst v) s1 Q):O5 P G E ops (i::l) fr s Q:=by
 intro cx w a K hE hs hf hd hK;refine LD ho (sound (Rz hm) hj cx w a _ _ hs (λx _=>dS hs hf x) (Ng (c:=cx) (w:=w) (λ_ _ _ _ _=>⟨fr,hf,rfl⟩)) ?_);intro u w' c' hx hs' hu;exact t c' w' (a.put o.dst u) K (hk _ _ _ _ hE hx) hs' (Od (hf.mono hx) hu) (by cases o.dst<;>exact hd) hK
def O5.sem{E':EW}{ops:Array Oper}{i:Nat}{l:List Nat}{o:Oper}{fr2:List AV}(v:AV){s2:AS}(ho:ops[i]?=some o)(hg:o.guard=none)
   (h:∀(cx:Cx) (w:World) (a:Act),E cx w->St G cx w s->CH cx w fr a.tmps.toList->∃u w' QX,(execOp a.eval o).run P w=.ok (.value u) w'/\E' QX w'/\St G QX w' s2/\CH QX w' fr2 a.tmps.toList/\Rp QX w' v u)
   (t:O5 P G E' ops l (IJ fr2 o.dst v) s2 Q):O5 P G E ops (i::l) fr s Q:=by
 intro cx w a K hE hs hf hd hK;refine LD ho ?_;obtain⟨u,w',QX,hr,iI,hs',iR,hu⟩:=h cx w a hE hs hf;unfold Mk;have hw:Region.wanted o (yielded ops a.tmps)=true:=by unfold Region.wanted;rw[hg]
 rw[hw];simp only[if_true];unfold Oper.wp;rw[hr];exact t QX w' (a.put o.dst u) K iI hs' (Od iR hu) (by cases o.dst<;>exact hd) hK
end
def aBC(b:Nat)(B:Nat->Nat->Prop)(w0:World)(E:EW):Prop:=∀(c:Cx) (w:World),E c w->c.base=b/\Below b w0 w/\(∀g i,B g i->c.bad g i)/\∀g i,some g∈c.CT->c.bad g i->g < b
def E0(b:Nat)(B:Nat->Nat->Prop)(w0:World):EW:=λc w=>c.base=b/\c.bad=B/\Below b w0 w
def E0.G3{b:Nat}{B:Nat->Nat->Prop}{w0:World}:Ua (E0 b B w0):=λcx w QX w' h hx=>⟨hx.base.trans h.1,hx.bad.trans h.2.1,h.2.2.trans (by have:=hx.below;rw[h.1] at this;exact this)⟩
def aEQ{P:Program}{G:A8}(hm:P.follows .mixedOrders=true)(hG:∀g cs,G g=some cs->BC cs=true){f:FuncId}{fn:Func}{c:Code}{args:List AV}{v:AV}(hf:P.funcs[f]?=some fn)(hb:fn.body=some c)
   (h:∀(b:Nat) (B:Nat->Nat->Prop) (w0:World),(∀g i,B g i->g < b)->WE P G (E0 b B w0) c (args++List.replicate (fn.ntmps - args.length) (.sc undef)) s0 (λe fr' s' E'=>(e=.normal\/e=.ret)/\aBC b B w0 E'/\∃a,GB P s' fn fr'=some a/\rA G s' a v))
   (hp:BC args=true) (hv:plain v=true):Pure P G f args v:=by
 intro s cx w vs hs GD
 have IB:∀g i x,LG cx w g i x->LG ⟨w.heap.size,[],[],cx.ZF⟩ w g i x:=by
   intro g i x hx;refine⟨hx.1,λGG=>?_,hx.2.2⟩;rcases GG with GG | ⟨r,n,cap,sz,hr,_⟩ | GG
   cases GG;simp at hr;exact hx.2.1 GG
 have FW:St G ⟨w.heap.size,[],[],cx.ZF⟩ w s0 :=
   ⟨rfl,trivial,(λi j g h1=>by simp at h1),(λg hg=>by cases hg),(λid g b h1=>by simp at h1),rfl,(λr g n cap sz hr=>by simp at hr),(λr n hr=>by cases hr),(λg hg=>by cases hg),(λg i hb=>hs.TP hb),(λr r' g n cap sz n' cap' M4 hr=>by simp at hr),(λg cs hg=>Bc.plain IB (hG g cs hg) (hs.Mp g cs hg)),Nat.le_refl _⟩
 have hl:=GD.len;refine calls_of_wp hf hb (h w.heap.size cx.ZF w (λg i hb=>hs.TP hb) ⟨w.heap.size,[],[],cx.ZF⟩ w _ _ ⟨rfl,rfl,Below.refl _ _⟩ FW ?_ rfl ?_);simp only[Array.toList_append,Array.toList_replicate];rw[show vs.toArray.size=args.length by rw[List.size_toArray,hl]];exact(CH.plain IB hp GD).append (CH.replicate (.sc rfl) _);rintro e fr' s' E' ⟨he,Vr,a0,hr,hft⟩ c' w' a' e' iI Mq QZ RB;obtain⟨h1,N3,h3,h4⟩:=Vr c' w' iI
 have aLK:CH c' w' fr' a'.tmps.toList/\(e'=.normal\/e'=.ret):=by
   rcases he with rfl | rfl
   exact⟨RB.2,.inl RB.1⟩;exact⟨RB.2,.inr RB.1⟩
 obtain⟨hf5,he'⟩:=aLK;obtain⟨u,h6,h7⟩:=Rk Mq hf5 hr;obtain⟨x2,T8⟩:=hs.same (w':=w') ⟨N3.os,N3.tape,N3.output,N3.size,λk hk _=>N3.block k hk⟩
 have KH:∀g,some g∈c'.CT->∀i,¬c'.bad g i:=λg hg i hb=>by
   have h5:=Mq.low g hg;have:=h4 g i hg hb;omega
 have xH:=hft _ _ _ Mq KH h7;have iQ:aBE G cx w (.ret v) s (.returned u) w':=⟨cx,x2,T8,u,rfl,Rp.plain (c:=c'.upto 0 0) (λg i x iY=>⟨iY.1,λGG=>iY.2.1 (.inr (.inr (h3 g i GG))),iY.2.2⟩) hv xH⟩;rcases he' with rfl | rfl
 exact⟨QZ,u,h6,iQ⟩;exact⟨QZ,u,h6,iQ⟩
end AI
namespace AI
open Go Go.RowKit
def FQ:Code->Array Oper
 | .region _ ops _=>ops
 | _=>#[]
def RS:Code->Nat->Bool
 | .region _ ops d,n=>(match d with
   | false=>Nat.beq ops.size n
   | true=>false)
 | _,_=>false
def aMR:Oper:={ dst:=none,op:=.move (.tmp 0),type:=0,pos:="",after:=#[],guard:=none }
def opAt(c:Code)(i:Nat):Oper:=((FQ c)[i]?).getD aMR
def uG{c:Code}{n:Nat}(h:RS c n=true):(∃id,c=.region id (FQ c) false)/\(FQ c).size=n:=by
 unfold RS at h;split at h;rename_i id ops d;split at h;exact⟨⟨id,rfl⟩,Nat.eq_of_beq_eq_true h⟩;cases h;cases h
def K1{c:Code}{n i:Nat}(h:RS c n=true)(hi:i < n):(FQ c)[i]?=some (opAt c i):=by
 have:=(uG h).2;unfold opAt;rw[Array.getElem?_eq_getElem (by omega)];rfl
def tG(o:Oper):Option (Operand×TypeId):=match o.guard with
 | none=>(match o.op with
   | .call cl=>(match cl.callee with
     | .builtin .len=>(match cl.args.toList with
       | [x]=>(match cl.argTypes.toList with
         | [t]=>some (x,t)
         | _=>none)
       | _=>none)
     | _=>none)
   | _=>none)
 | some _=>none
def gA(o:Oper):Option (Operand×Operand×TypeId×TypeId):=match o.guard with
 | none=>(match o.op with
   | .call cl=>(match cl.callee with
     | .builtin .append=>(match cl.args.toList with
       | [x,y]=>(match cl.argTypes.toList with
         | [t,tx]=>some (x,y,t,tx)
         | _=>none)
       | _=>none)
     | _=>none)
   | _=>none)
 | some _=>none
def uS(o:Oper):Option (TypeId×Operand×Operand):=match o.guard with
 | none=>(match o.op with
   | .slice t x lo hi mx=>(match lo with
     | none=>(match hi with
       | some y=>(match mx with
         | none=>some (t,x,y)
         | _=>none)
       | _=>none)
     | _=>none)
   | _=>none)
 | some _=>none
def ayJ(o:Oper):Option (TypeId×Operand×Operand):=match o.guard with
 | none=>(match o.op with
   | .indexAddr t x y=>some (t,x,y)
   | _=>none)
 | some _=>none
def ayP(o:Oper):Option (TypeId×Operand):=match o.guard with
 | none=>(match o.op with
   | .load t x=>some (t,x)
   | _=>none)
 | some _=>none
def alV(o:Oper):Option (TypeId×Operand):=match o.guard with
 | none=>(match o.op with
   | .buildSlice t n ps=>(match n with
     | 1=>(match ps.toList with
       | [(0,x)]=>some (t,x)
       | _=>none)
     | _=>none)
   | _=>none)
 | some _=>none
section
variable {P:Program} {w:World} {ρ:Operand->Value} {o:Oper}
def xP{x:Operand}{t e:TypeId}{A:Option Addr}{n cap:Nat}(h:tG o=some (x,t))(hu:P.underlying t=some (.slice e))(ha:ρ x=.slice A n cap):o.guard=none/\(execOp ρ o).run P w=.ok (.value (.int .i64 n)) w:=by
 unfold tG at h;split at h;rename_i hg;refine⟨hg,?_⟩;split at h;rename_i cl ho;split at h;rename_i Iy;split at h;rename_i x' hx;split at h;rename_i t' ht;cases h;have e1:cl.args=#[x]:=by apply Array.ext';rw[hx]
 have e2:cl.argTypes=#[t]:=by apply Array.ext';rw[ht]
 simp[execOp,ho,resolve,Iy,e1,e2,invoke,builtin,ha,Builtin.len_,run_underlying hu,goInt];cases h;cases h;cases h;cases h;cases h
def ZO{x y:Operand}{t tx:TypeId}{u:Value}{w':World}(h:gA o=some (x,y,t,tx))(hr:∀ty,(Builtin.append_ #[t,tx] ty #[ρ x,ρ y]).run P w=.ok u w'):o.guard=none/\(execOp ρ o).run P w=.ok (.value u) w':=by
 unfold gA at h;split at h;rename_i hg;refine⟨hg,?_⟩;split at h;rename_i cl ho;split at h;rename_i Iy;split at h;rename_i x' y' hx;split at h;rename_i t' tx' ht;cases h;have e1:cl.args=#[x,y]:=by apply Array.ext';rw[hx]
 have e2:cl.argTypes=#[t,tx]:=by apply Array.ext';rw[ht]
 simp[execOp,ho,resolve,Iy,e1,e2,invoke,builtin,hr];cases h;cases h;cases h;cases h;cases h
def gE{q:Operand×Operand×TypeId×TypeId}(h:gA o=some q):o.guard=none:=by
 unfold gA at h;split at h;rename_i hg;exact hg;cases h
def yW{x y:Operand}{t e:TypeId}{i:TypeInfo}{g n cap m:Nat}(h:uS o=some (t,x,y))(hu:P.underlying t=some (.slice e))(hi:P.info? e=some i)(ha:ρ x=.slice (some ⟨g,0,none⟩) n cap)(hy:ρ y=.int .i64 m)(hm:m<=cap):o.guard=none/\(execOp ρ o).run P w=.ok (.value (.slice (some ⟨g,0,none⟩) m cap)) w:=by
 unfold uS at h;split at h;rename_i hg;refine⟨hg,?_⟩;split at h;rename_i t' x' lo O7 mx ho;split at h;split at h;split at h;cases h;have b1:R1 0 none 0:=.inl ⟨rfl,rfl⟩;have b2:R1 n (some (.int .i64 ((m:Nat):Int))) m:=.inr ⟨.i64,(m:Int),rfl,by omega,by simp⟩;simp only[execOp,ho,Option.map_none,Option.map_some,ha,hy,Instr.sliceAt,Sem.run_bind,run_underlying hu,Result.andThen_ok,Instr.slice,TO b1 b2 (Nat.zero_le m) hm,Sem.run_pure,CG hi];congr 3;split;rfl;simp[add_lit];cases h;cases h;cases h;cases h;cases h
def aeX{x y:Operand}{t e:TypeId}{i:TypeInfo}{g n cap m:Nat}(h:ayJ o=some (t,x,y))(hu:P.underlying t=some (.slice e))(hi:P.info? e=some i)(ha:ρ x=.slice (some ⟨g,0,none⟩) n cap)(hy:ρ y=.int .i64 m)(hm:m < n):o.guard=none/\(execOp ρ o).run P w=.ok (.value (.pointer (some ⟨g,m*i.size,none⟩))) w:=by
 unfold ayJ at h;split at h;rename_i hg;refine⟨hg,?_⟩;split at h;rename_i t' x' y' ho;cases h;have h0:(0:Int)<=(m:Int):=by omega
 have h1:(m:Int) < (n:Int):=by omega
 simp[execOp,ho,ha,hy,Instr.indexAt,asIntOf,run_underlying hu,hm,CG hi,add_lit];cases h;cases h
def afB{x:Operand}{t:TypeId}{a:Addr}{u:Value}(h:ayP o=some (t,x))(ha:ρ x=.pointer (some a))(hr:(loadVar t a).run P w=.ok u w):o.guard=none/\(execOp ρ o).run P w=.ok (.value u) w:=by
 unfold ayP at h;split at h;rename_i hg;refine⟨hg,?_⟩;split at h;rename_i t' x' ho;cases h;simp[execOp,ho,ha,Instr.loadAt,Instr.sureAddr,hr];cases h;cases h
def abE{x:Operand}{t e:TypeId}{i:TypeInfo}{z:Value}(h:alV o=some (t,x))(hu:P.underlying t=some (.slice e))(hi:P.info? e=some i)(hs:i.size=1)(hz:i.zero=some z)(hzs:z.cells.size=1)(hv:(ρ x).cells=#[ρ x]):o.guard=none/\(execOp ρ o).run P w=.ok (.value (.slice (some ⟨w.heap.size,0,none⟩) 1 1)) { w with heap:=w.heap.push (.cells #[ρ x] e) }:=by
 unfold alV at h;split at h;rename_i hg;refine⟨hg,?_⟩;split at h;rename_i t' n ps ho;split at h;split at h;rename_i x' sT;cases h;have e1:ps=#[(0,x)]:=by apply Array.ext';rw[sT]
 have hf:∀B:Array Value,B.size=1->Instr.fill (λi=>some (i,1)) B [(0,ρ x)]=some #[ρ x]:=by
   intro B hB;obtain⟨b,rfl⟩:=Array.size_eq_one_iff.1 hB;simp[Instr.fill,hv]
 have h2:=hf ((Array.range 1).map (z.cells[· % z.cells.size]!)) (by simp);simp only[execOp,ho,e1,Instr.buildSlice,Sem.run_bind,run_underlying hu,Result.andThen_ok,CG hi,hs,Sem.run_ite,zeroValue,typeInfo,run_program,hi,hz,Sem.run_pure,List.map_toArray,List.map_cons,List.map_nil,Nat.mul_one,Nat.one_ne_zero,if_false,gt_iff_lt,show ¬(2 ^ 24 < 1) from by decide,newRow];rw[h2];simp;cases h;cases h;cases h;cases h
end
end AI
