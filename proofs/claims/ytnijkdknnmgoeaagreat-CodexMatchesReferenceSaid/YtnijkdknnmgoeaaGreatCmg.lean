/- Part of a proof: see the last text. -/
import Derived.Test.YtnijkdknnmgoeaaGreatCmf
import Derived.Laws.StructEq
set_option linter.unusedVariables false
set_option linter.unusedSimpArgs false
set_option linter.defProp false
noncomputable section
namespace AI
open Go Go.RowKit
inductive Wn:List AV->List AV->Prop where
 | nil:Wn [] []
 | r {a:AV} {l k:List AV} (t:Wn l k):Wn (a::l) (a::k)
 | s {o:Own} {n:Nat} {cs ds l k:List AV} (h:cs=ds) (t:Wn l k):Wn (.sl o n cs::l) (.sl .lost n ds::k)
 | d {o:Own} {n:Nat} {cs ds es l k:List AV} (h:Wn cs ds) (e:ds=es) (t:Wn l k):Wn (.sl o n cs::l) (.sl .lost n es::k)
 | g {cs ds l k:List AV} (h:Wn cs ds) (t:Wn l k):Wn (.agg cs::l) (.agg ds::k)
 | u {cs ds l k:List AV} (h:Wn cs ds) (t:Wn l k):Wn (.Bj cs::l) (.Bj ds::k)
def Wn.refl:∀l:List AV,Wn l l
 | []=>.nil
 | _::l=>.r (Wn.refl l)
def Wn.len{l k:List AV}(h:Wn l k):l.length=k.length:=by
 induction h with
 | nil=>rfl
 | r _ ih=>simp[ih]
 | s _ _ ih=>simp[ih]
 | d _ _ _ _ ih=>simp[ih]
 | g _ _ _ ih=>simp[ih]
 | u _ _ _ ih=>simp[ih]
section
variable {c:Cx} {w:World}
mutual
def Wn.ok:∀{l k:List AV},Wn l k->∀{vs:List Value},C8 c w l vs->C8 c w k vs
 | _,_,.nil,_,hr=>hr
 | _,_,.r t,_,hr=>by cases hr with | cons h1 t1=>exact .cons h1 (t.ok t1)
 | _,_,.s h t,_,hr=>by
   subst h;cases hr with
   | cons h1 t1 =>
     refine .cons ?_ (t.ok t1);cases h1 with
     | Ln _=>exact .Ln trivial
     | Pg hn hc ho=>exact .Pg hn hc trivial
 | _,_,.d h e t,_,hr=>by
   subst e;cases hr with
   | cons h1 t1 =>
     refine .cons ?_ (t.ok t1);cases h1 with
     | Ln _=>cases h;exact .Ln trivial
     | Pg hn hc ho=>exact .Pg hn (h.iN hc) trivial
 | _,_,.g h t,_,hr=>by
   cases hr with
   | cons h1 t1 =>
     refine .cons ?_ (t.ok t1);cases h1 with
     | agg h2=>exact .agg (h.ok h2)
 | _,_,.u h t,_,hr=>by
   cases hr with
   | cons h1 t1 =>
     refine .cons ?_ (t.ok t1);cases h1 with
     | Bj h2=>exact .Bj (h.ok h2)
def Wn.iN:∀{l k:List AV},Wn l k->∀{g o:Nat},Bn c w g o l->Bn c w g o k
 | _,_,.nil,_,_,hr=>hr
 | _,_,.r t,_,_,hr=>by cases hr with | cons hv h1 t1=>exact .cons hv h1 (t.iN t1)
 | _,_,.s h t,_,_,hr=>by
   subst h;cases hr with
   | cons hv h1 t1 =>
     refine .cons hv ?_ (t.iN t1);cases h1 with
     | Ln _=>exact .Ln trivial
     | Pg hn hc ho=>exact .Pg hn hc trivial
 | _,_,.d h e t,_,_,hr=>by
   subst e;cases hr with
   | cons hv h1 t1 =>
     refine .cons hv ?_ (t.iN t1);cases h1 with
     | Ln _=>cases h;exact .Ln trivial
     | Pg hn hc ho=>exact .Pg hn (h.iN hc) trivial
 | _,_,.g h t,_,_,hr=>by
   cases hr with
   | cons hv h1 t1 =>
     refine .cons hv ?_ (t.iN t1);cases h1 with
     | agg h2=>exact .agg (h.ok h2)
 | _,_,.u h t,_,_,hr=>by
   cases hr with
   | cons hv h1 t1 =>
     refine .cons hv ?_ (t.iN t1);cases h1 with
     | Bj h2=>exact .Bj (h.ok h2)
end
end
def Wn.bV{a b c d:List AV}(h:Wn a b)(k:Wn c d):Wn (a++c) (b++d):=by
 induction a generalizing b with
 | nil=>cases h;exact k
 | cons x a ih =>
   cases h with
   | r t=>exact .r (ih t)
   | s h t=>exact .s h (ih t)
   | d h e t=>exact .d h e (ih t)
   | g h t=>exact .g h (ih t)
   | u h t=>exact .u h (ih t)
def Rp.wnC{c:Cx}{w:World}{o:Own}{q:Nat}{cs ds:List AV}{u:Value}(h:Wn cs ds)(hr:Rp c w (.sl o q cs) u):Rp c w (.sl o q ds) u:=by
 cases hr with
 | Ln h0=>cases h;exact .Ln h0
 | Pg hn hc ho=>exact .Pg hn (h.iN hc) (by rw[<- h.len];exact ho)
def Fits.wn{n m:Nat}{a b:AV}(h:Wn [a] [b])(hp:AI.plain b=true):Fits n m a b:=λc w v hr=>by
 have:=h.ok (.cons hr .nil);cases this with
 | cons h1 _=>exact Fits.plain hp c w v h1
section
variable {P:Program} {G:Bh}
def uJ(hm:P.follows .mixedOrders=true)(hG:∀g cs,G g=some cs->Bx cs=true){f:FuncId}{args:List AV}{v:AV}(h:WC P G (XS P G) H0 f args s0 (λr _=>∃a,r=.ret a/\Fits 0 0 a v))(hp:Bx args=true)(hv:plain v=true):Pure P G f args v:=by
 obtain⟨r,s',hj,a,rfl,hf⟩:=h;have hS:=sound (yI hm) hj;intro s cx w vs hs G6
 have Ls:∀g i x,Pu cx w g i x->Pu ⟨w.heap.size,[],[],cx.iT⟩ w g i x:=by
   intro g i x hx;refine⟨hx.1,λMF=>?_,hx.2.2⟩;rcases MF with MF | ⟨r,n,cap,sz,hr,_⟩ | MF
   cases MF;simp at hr;exact hx.2.1 MF
 have HK:St G ⟨w.heap.size,[],[],cx.iT⟩ w s0 :=
   ⟨rfl,trivial,(λi j g h1=>by simp at h1),(λg hg=>by cases hg),(λid g b h1=>by simp at h1),rfl,(λr g n cap sz hr=>by simp at hr),(λr n hr=>by cases hr),(λg hg=>by cases hg),(λg i hb=>hs.ZB hb),(λr r' g n cap sz n' DQ Qc hr=>by simp at hr),(λg cs hg=>Bn.plain Ls (hG g cs hg) (hs.RN g cs hg)),Nat.le_refl _⟩
 refine(hS _ w vs HK (C8.plain Ls hp G6)).mono ?_;rintro e w' ⟨c',hx,_,u,rfl,hu⟩;have Ou:=hx.below;obtain⟨x2,YU⟩:=hs.same (w':=w') ⟨Ou.os,Ou.tape,Ou.output,Ou.size,λk hk _=>Ou.block k hk⟩;refine⟨cx,x2,YU,u,rfl,Rp.plain (c:=c'.upto 0 0) (λg i x hvv=>⟨hvv.1,λMF=>hvv.2.1 (.inr (.inr ?_)),hvv.2.2⟩) hv (hf _ _ _ hu)⟩;show c'.bad g i;rw[hx.bad];exact MF
def Ws(P:Program)(fn:Func)(m:Nat)(Q:AX->List AV->AS->Prop)(v:AV):Prop:=∀a s2,Fits 0 0 a v->V1 P fn m Q a s2
def Ws.body{fn:Func}{m:Nat}{v:AV}:Ws P fn m (PE P fn m (λr _=>∃a,r=.ret a/\Fits 0 0 a v)) v:=λa _ h=>.body ⟨a,rfl,h⟩
def Ws.outer{fn:Func}{m id:Nat}{ks:List KI}{Q:AX->List AV->AS->Prop}{v:AV}(h:Ws P fn m Q v):Ws P fn m (Cy id (Ce P G ks Q)) v:=λa s2 hf=>(h a s2 hf).outer
def Ww{δ J:Type}(Q:AX->List AV->AS->Prop)(id:Nat)(F:δ->J->List AV)(S:δ->J->AS)(Ok:J->Prop)(d:δ):Prop:=∀j,Ok j->Q (.exit id) (F d j) (S d j)
def abf(P:Program)(fn:Func):HR->Option (List Cd×AV)
 | some (.fin .ret,[],cd,fr,s)=>(match I4 P s fn fr with
   | some v=>some (cd,v)
   | none=>none)
 | _=>none
def Vk{r:HR}{X:Prop}{Q:AX->List AV->AS->Prop}{v w:AV}(fn:Func)(m:Nat){l:List (PC P G)}(R:gG P G l Q r X)(h:abf P fn r=some (YX l,v))(k:Ws P fn m Q w)(hf:Fits 0 0 v w):X:=by
 unfold abf at h;split at h;rename_i cd Cm s';split at h;rename_i v' hv;simp only[Option.some.injEq,Prod.mk.injEq] at h;obtain⟨rfl,rfl⟩:=h;exact R _ _ _ _ rfl (UO l) (k _ _ hf _ _ hv rfl);cases h;cases h
def Ws.Dv{fn:Func}{m:Nat}{L:Code}{s0:AS}{Q:AX->List AV->AS->Prop}{v:AV}(h:Ws P fn m Q v):Ws P fn m (Sb P G L s0 Q) v:=h
def Eu{δ ρ β:Type}(k:δ->Option β)(kr:ρ->Option β):δ⊕ρ->Option β
 | .inl d=>k d
 | .inr v=>kr v
def pk:PC P G:=⟨.k,[],trivial⟩
def pb{B b:Bool}(h:B=b):PC P G:=⟨.b b,[.eqb B b],⟨h,trivial⟩⟩
def pn{B b:Bool}(h:B=b):PC P G:=⟨.b (!b),[.eqb (!B) (!b)],⟨by show(!B)=(!b);rw[h],trivial⟩⟩
def amR{i:Nat}(h:i < 9223372036854775807):UG .i64 (aeH ((i:Nat):Int) 1)=((i+1:Nat):Int):=by
 rw[XX,oB];have:=afx (i:=i+1) (by omega);rw[<- this];rfl
def aty(i:Nat)(h:i < 9223372036854775807):PC P G:=⟨.i ((i+1:Nat):Int),[.eqi (UG .i64 (aeH ((i:Nat):Int) 1)) ((i+1:Nat):Int)],⟨amR h,trivial⟩⟩
def Ag{f:FuncId}{args:List AV}{v:AV}(h:Pure P G f args v):PC P G:=⟨.w v,[.pur f args v],⟨h,trivial⟩⟩
def Gc{f:FuncId}{args sI:List AV}{v:AV}(w:Wn args sI)(h:Pure P G f sI v):PC P G:=⟨.w v,[.pur f args v],⟨λs cx wd vs hs ha=>h s cx wd vs hs (w.ok ha),trivial⟩⟩
def Bq{t:TypeId}{a b v:AV}(h:BW P t a b=some v):PC P G:=⟨.w v,[.idx t a b v],⟨h,trivial⟩⟩
def b9{t:TypeId}{a b v:AV}(h:Oq P t a b=some v):PC P G:=⟨.w v,[.ix t a b v],⟨h,trivial⟩⟩
def Dx{op:BinOp}{t:TypeId}{x y:Operand}{a b v:AV}(h:L2 P op t x y a b=some v):PC P G:=⟨.w v,[.bin op t x y a b v],⟨h,trivial⟩⟩
def YJ{t:TypeId}{a:AV}{l h m:Option AV}{v:AV}(e:KL P t a l h m=some v):PC P G:=⟨.o v,[.sli t a l h m v],⟨e,trivial⟩⟩
def CE(a b:Int):Int:=UG .i64 (aeH a b)
def XG(a b:Int):Int:=UG .i64 (agW a b)
def jX(a b:Int):Int:=UG .i64 (a*b)
def Cn{α:Type}(l:List α)(z:Int):Option α:=if 0<=z then l[z.toNat]? else none
structure MG{α:Type}(f:α->List AV)(C:List α->List AV)(k:Nat):Prop where
 eq:∀l,C l=rows f l
 len:∀x,(f x).length=k
 pl:∀x,Bx (f x)=true
def MG.bV{α:Type}{f:α->List AV}{C:List α->List AV}{k:Nat}(h:MG f C k)(l m:List α):C (l++m)=C l++C m:=by rw[h.eq,h.eq,h.eq,O4]
def MG.cons{α:Type}{f:α->List AV}{C:List α->List AV}{k:Nat}(h:MG f C k)(x:α)(m:List α):C (x::m)=f x++C m:=by rw[h.eq,h.eq,HV]
def MG.Aq{α:Type}{f:α->List AV}{C:List α->List AV}{k:Nat}(h:MG f C k)(l:List α):Bx (C l)=true:=by rw[h.eq];exact yL λx _=>h.pl x
def MG.Bk{α:Type}{f:α->List AV}{C:List α->List AV}{k:Nat}(h:MG f C k)(l:List α):plain (.sl .lost l.length (C l))=true:=by simp only[plain,h.Aq];rfl
def MG.Cv{α:Type}{f:α->List AV}{C:List α->List AV}{k:Nat}(h:MG f C k)(x:α):plain (.agg (f x))=true:=h.pl x
def MG.ix{α:Type}{f:α->List AV}{C:List α->List AV}{k:Nat}(h:MG f C k){t elem:TypeId}(hu:P.underlying t=some (.slice elem))(hs:(P.info? elem).map (·.size)=some k)(own:Own){l:List α}{i:Nat}{x:α}(hx:l[i]?=some x):BW P t (.sl own l.length (C l)) (.sc (.int .i64 ((i:Nat):Int)))=some (.el (f x++C (l.drop (i+1)))):=by
 cases hi:P.info? elem with
 | none=>rw[hi] at hs;cases hs
 | some e =>
   rw[hi] at hs;rw[h.eq,h.eq];exact zH hu hi (by simpa using hs) h.len hx
def MG.ixz{α:Type}{f:α->List AV}{C:List α->List AV}{k:Nat}(h:MG f C k){t elem:TypeId}(hu:P.underlying t=some (.slice elem))(hs:(P.info? elem).map (·.size)=some k)(own:Own){l:List α}{z:Int}{x:α}(hx:Cn l z=some x):BW P t (.sl own l.length (C l)) (.sc (.int .i64 z))=some (.el (f x++C (l.drop (z.toNat+1)))):=by
 unfold Cn at hx;split at hx;rename_i hz;have:=h.ix hu hs own hx;rwa[Int.toNat_of_nonneg hz] at this;cases hx
def MG.wn{α:Type}{f:α->List AV}{C:List α->List AV}{k:Nat}(h:MG f C k)(m:List α){a:List AV}(w:Wn a (rows f m)):Wn a (C m):=by rw[h.eq];exact w
def UA{α:Type}{f:α->List AV}{k:Nat}(hf:∀x,(f x).length=k)(l:List α)(i:Nat):(rows f l).drop (i*k)=rows f (l.drop i):=by
 induction l generalizing i with
 | nil=>simp[rows]
 | cons x l ih =>
   cases i with
   | zero=>simp
   | succ i =>
     rw[HV,List.drop_append,hf x,List.drop_eq_nil_of_le (by rw[hf x,Nat.add_mul];omega),List.nil_append,List.drop_succ_cons,<- ih i];congr 1;rw[Nat.add_mul];omega
def Ul{α:Type}{f:α->List AV}{k:Nat}(hf:∀x,(f x).length=k)(l:List α)(i:Nat):(rows f l).take (i*k)=rows f (l.take i):=by
 induction l generalizing i with
 | nil=>simp[rows]
 | cons x l ih =>
   cases i with
   | zero=>simp[rows]
   | succ i =>
     rw[HV,List.take_append,hf x,List.take_of_length_le (by rw[hf x,Nat.add_mul];omega),List.take_succ_cons,HV,<- ih i];congr 2;rw[Nat.add_mul];omega
def MG.sub{α:Type}{f:α->List AV}{C:List α->List AV}{k:Nat}(h:MG f C k){t elem:TypeId}(hu:P.underlying t=some (.slice elem))(hs:(P.info? elem).map (·.size)=some k)(l q:Nat){s:List α}(h1:l<=q)(h2:q<=s.length)(lo hi:Option AV)(e1:MH 0 lo=some l)(e2:MH s.length hi=some q) :
   KL P t (.sl .lost s.length (C s)) lo hi none=some (.sl .lost ((s.drop l).take (q - l)).length (C ((s.drop l).take (q - l)))):=by
 cases QZ:P.info? elem with
 | none=>rw[QZ] at hs;cases hs
 | some e =>
   rw[QZ] at hs;have hk:e.size=k:=by simpa using hs
   unfold KL;simp only[hu,QZ,e1,e2,hk];rw[if_pos ⟨h1,h2,by rw[h.eq,Nw h.len]⟩]
   have e3:(if l=0/\q=s.length then Own.lost else if q=s.length/\Own.lost=.full then .full else .lost)=.lost:=by
     split;rfl;split;rename_i hq;exact absurd hq.2 (by decide);rfl
   rw[e3,h.eq,h.eq,UA h.len,Ul h.len];congr 2;simp;omega
def cA{β:Type}(f:Nat->Option β):Option β:=open Classical in if h:∃y,∃n0:Nat,∀n,n0<=n->f n=some y then some (Classical.choose h) else none
def Th{β:Type}{f:Nat->Option β}{y:β}(h:cA f=some y):∃n,f n=some y:=by
 unfold cA at h;split at h;rename_i hx;obtain⟨n0,hn⟩:=Classical.choose_spec hx;rw[Option.some.inj h] at hn;exact⟨n0,hn n0 (Nat.le_refl _)⟩;cases h
def Ih{β:Type}{f:Nat->Option β}{y:β}(n0:Nat)(h:∀n,n0<=n->f n=some y):cA f=some y:=by
 unfold cA;have hx:∃y,∃n0:Nat,∀n,n0<=n->f n=some y:=⟨y,n0,h⟩;rw[dif_pos hx];obtain⟨n1,hn⟩:=Classical.choose_spec hx;have h1:=h (max n0 n1) (Nat.le_max_left _ _);have h2:=hn (max n0 n1) (Nat.le_max_right _ _);rw[h1] at h2;rw[Option.some.inj h2]
def JB{β:Type}(n:Nat)(x:Option β):Option β:=if n<=100000000 then x else none
def ajQ{β:Type}{n:Nat}{x:Option β}{r:β}(h:JB n x=some r):n<=100000000/\x=some r:=by
 unfold JB at h;split at h;rename_i h1;exact⟨h1,h⟩;cases h
def MG.Z2{α:Type}{f:α->List AV}{C:List α->List AV}{k:Nat}(h:MG f C k){t tx e e2 by':Nat}(hu:P.underlying t=some (.slice e))(hux:P.underlying tx=some (.slice e2))(hi:(P.info? e).map (λi=>(i.size,i.bytes,i.zero.map (·.cells.size)))=some (k,by',some k))(hk:0 < k)(hb:by'<=10000)
   (own:Own) (l m:List α) {o:Own} {n:Nat} {ns:List AV} (hn:Wn ns (C m)) (uH:n=m.length) (ho:ns.all one=true) (hm:m.length≠0) (hlen:l.length+m.length<=100000000):Cd.ok P G (.Z2 t tx own l.length (C l) (.sl o n ns) k (l++m).length (C (l++m))):=by
 subst uH;cases hq:P.info? e with
 | none=>rw[hq] at hi;cases hi
 | some i =>
   rw[hq] at hi;simp only[Option.map_some,Option.some.injEq,Prod.mk.injEq] at hi;obtain⟨h1,h2,h3⟩:=hi;cases hz:i.zero with
   | none=>rw[hz] at h3;cases h3
   | some z =>
     rw[hz] at h3;simp only[Option.map_some,Option.some.injEq] at h3;intro s UF;have hnl:ns.length=m.length*k:=by rw[hn.len,h.eq,Nw h.len]
     have wG:(C l).length=l.length*k:=by rw[h.eq,Nw h.len]
     refine⟨C l++ns,?_,λc w u o' hr=>?_⟩
     have hs:yY P s i.size tx (.sl o m.length ns)=some (m.length,ns):=by
       unfold yY;rw[hux,h1];simp only[hnl,if_true]
     unfold PR;simp only[hu,hq,hz];rw[if_pos ⟨by rw[h3,h1],by omega⟩,hs];simp only
     have hbb:(l.length+m.length)*i.bytes<=140737488355328:=by
       rw[h2];exact Nat.le_trans (Nat.mul_le_mul hlen hb) (by decide)
     rw[if_pos ⟨by rw[wG,h1],ho,hbb,by omega⟩,if_neg hm,h1,if_pos UF,List.length_append];rw[h.bV];exact Rp.wnC (Wn.bV (Wn.refl (C l)) hn) hr
def Ly{t tx:TypeId}{own:Own}{n:Nat}{cs:List AV}{b:AV}{sz k:Nat}{cs2:List AV}(h:Cd.ok P G (.Z2 t tx own n cs b sz k cs2)):PC P G :=
 match own with
 | .row r z=>⟨.g sz k cs2,[.Z2 t tx (.row r z) n cs b sz k cs2,.eqn n n],⟨h,rfl,trivial⟩⟩
 | .full=>⟨.g sz k cs2,[.Z2 t tx .full n cs b sz k cs2],⟨h,trivial⟩⟩
 | _=>⟨.g sz k cs2,[],trivial⟩
def Aq{a:AV}{l:List AV}(h:plain a=true)(t:Bx l=true):Bx (a::l)=true:=by simp only[Bx,h,t];rfl
def agc{a b:List AV}(ha:Bx a=true)(hb:Bx b=true):Bx (a++b)=true:=by
 induction a with
 | nil=>exact hb
 | cons x a ih =>
   simp only[Bx,Bool.and_eq_true,List.cons_append] at ha ⊢;exact⟨ha.1,ih ha.2⟩
def As{n m:Nat}{a:AV}{l:List AV}(h:under n m a=true)(t:DU n m l=true):DU n m (a::l)=true:=by simp only[DU,h,t];rfl
end
end AI
namespace AI
open Go Go.RowKit
def Lc{P:Program}{α β:Type}(m:Sem α)(f:α->Sem β):pv P (m >>= f)=(pv P m).bind λa=>pv P (f a):=by
 show pv P (m.bind f)=_
 induction m with
 | pure a=>rfl
 | program k ih=>exact ih P
 | mark _ k ih=>exact ih
 | _=>rfl
def PT{P:Program}{α:Type}(a:α):pv P (pure a:Sem α)=some a:=rfl
def Wu{P:Program}:pv P program=some P:=rfl
def L3{P:Program}{t:TypeId}{d:TypeDesc}(h:P.underlying t=some d):pv P (underlying t)=some d:=by
 unfold underlying;rw[Lc,Wu];simp only[Option.bind_some,h];rfl
def amm{P:Program}{α:Type}(c:Prop)[Decidable c](a b:Sem α):pv P (if c then a else b)=if c then pv P a else pv P b:=by split<;>rfl
def Xw{P:Program}(d:Nat)(t:TypeId)(xs ys:Array Value)(ht:P.underlying t=some (.struct (P.fieldsOf t)))(hp:P.stoodInHeld t=false) :
   pv P (Op.equalIn (d+1) t (.agg xs) (.agg ys))=pv P (Op.eqFields d xs ys (P.fieldsOf t).toList):=by
 simp only[Op.equalIn,Lc,L3 ht,Option.bind_some,Wu,hp,Bool.false_eq_true,if_false];rw[<- Array.forIn_toList];generalize (P.fieldsOf t).toList=fs;clear ht
 induction fs with
 | nil=>simp[Op.eqFields,PT]
 | cons f fs ih =>
   simp only[List.forIn_cons,Op.eqFields,Lc,amm];split;generalize pv P (part f.type xs f.offset)=r1;cases r1 with
   | none=>simp
   | some a =>
     simp only[Option.bind_some];generalize pv P (part f.type ys f.offset)=r2;cases r2 with
     | none=>simp
     | some b =>
       simp only[Option.bind_some];generalize pv P (Op.equalIn d f.type a b)=r3;cases r3 with
       | none=>simp
       | some r =>
         cases r;simp[PT];simp only[Option.bind_some,Bool.not_true,Bool.false_eq_true,if_false,PT];exact ih
   simp only[PT,Option.bind_some];exact ih
def agJ{P:Program}{t:TypeId}{k:IntKind}(h:P.underlying t=some (.int k))(cs:Array Value)(off:Nat){v:Value}(hv:cs[off]?=some v):pv P (part t cs off)=some v:=by
 unfold part isAgg;simp[Lc,L3 h,PT,hv]
def dA{P:Program}(d:Nat){t:TypeId}{k k':IntKind}(a b:Int)(h:P.underlying t=some (.int k')):pv P (Op.equalIn (d+1) t (.int k a) (.int k b))=some (a == b):=by
 simp[Op.equalIn,Lc,L3 h,PT]
def qX{P:Program}(op:BinOp)(t:TypeId)(x y:Operand)(xs ys:Array Value)(hm:P.eqGuardType P.depth t=false):pv P (eqGuard op t x y (.agg xs) (.agg ys))=some ():=by
 cases op<;>simp[eqGuard,Lc,Wu,hm,PT]
def Uk(P:Program)(t:TypeId):Nat:=match P.underlying t with
 | some (.int _)=>1
 | some .string=>2
 | _=>0
def fEq:Value->Value->Option Bool
 | .int k a,.int k' b=>if k=k' then some (a == b) else none
 | .string a,.string b=>some (a == b)
 | _,_=>none
def aM:List Value->List Value->Option Bool
 | [],[]=>some true
 | a::as,b::bs=>(fEq a b).bind λr=>(match r with | true=>aM as bs | false=>some false)
 | _,_=>none
def tJ{P:Program}{t:TypeId}(h:Uk P t≠0)(cs:Array Value)(off:Nat){v:Value}(hv:cs[off]?=some v):pv P (part t cs off)=some v:=by
 unfold Uk at h;split at h;rename_i h1;exact agJ h1 cs off hv;rename_i h1;unfold part isAgg;simp[Lc,L3 h1,PT,hv];exact absurd rfl h
def alR{P:Program}(d:Nat){t:TypeId}{a b:Value}{r:Bool}(hk:(∃k n m,a=.int k n/\b=.int k m/\Uk P t=1)\/(∃x y,a=.string x/\b=.string y/\Uk P t=2))(h:fEq a b=some r):pv P (Op.equalIn (d+1) t a b)=some r:=by
 rcases hk with ⟨k,n,m,rfl,rfl,hk⟩ | ⟨x,y,rfl,rfl,hk⟩
 unfold Uk at hk;split at hk;rename_i h1;simp only[fEq,if_true] at h;rw[dA d n m h1];exact h;cases hk;cases hk;unfold Uk at hk;split at hk;cases hk;rename_i h1;simp only[fEq] at h;rw[<- h];simp[Op.equalIn,Lc,L3 h1,PT];cases hk
def r9:List Nat->List Value->Prop
 | [],[]=>True
 | k::ks,v::vs=>((∃n,v=.int .i64 n/\k=1)\/(∃x,v=.string x/\k=2))/\r9 ks vs
 | _,_=>False
def abq{P:Program}(d:Nat):∀(fs:List Field) (off:Nat) (ks:List Nat) (xs ys:List Value) (us vs:List Value) (r:Bool),fs.map (λf=>Uk P f.type)=ks->(∀(i:Nat) f,fs[i]?=some f->f.name≠"_"/\f.offset=off+i)->xs.drop off=us->ys.drop off=vs->r9 ks us->r9 ks vs->aM us vs=some r->pv P (Op.eqFields (d+1) xs.toArray ys.toArray fs)=some r:=by
 intro fs
 induction fs with
 | nil =>
   intro off ks xs ys us vs r Lo _ hx hy h1 h2 h;cases ks with
   | cons=>cases Lo
   | nil =>
     cases us<;>cases vs<;>simp only[r9,aM] at h1 h2 h
     rw[<- h];rfl
 | cons f fs ih =>
   intro off ks xs ys us vs r Lo hf hx hy h1 h2 h;cases ks with
   | nil=>cases Lo
   | cons k ks =>
     cases us with
     | nil=>cases h1
     | cons u us =>
       cases vs with
       | nil=>cases h2
       | cons v vs =>
         simp only[List.map_cons,List.cons.injEq] at Lo;obtain⟨hk,Lo⟩:=Lo;obtain⟨hn,ho⟩:=hf 0 f rfl;rw[Nat.add_zero] at ho;have hxu:xs.toArray[off]?=some u:=by rw[List.getElem?_toArray,<- List.head?_drop,hx];rfl
         have hyv:ys.toArray[off]?=some v:=by rw[List.getElem?_toArray,<- List.head?_drop,hy];rfl
         have cB:Uk P f.type≠0:=by
           rw[hk];rcases h1.1 with ⟨_,_,e⟩ | ⟨_,_,e⟩<;>omega
         have hkk:(∃k n m,u=.int k n/\v=.int k m/\Uk P f.type=1)\/(∃x y,u=.string x/\v=.string y/\Uk P f.type=2):=by
           rw[hk];rcases h1.1 with ⟨n,e1,e2⟩ | ⟨n,e1,e2⟩<;>rcases h2.1 with ⟨m,e3,e4⟩ | ⟨m,e3,e4⟩
           exact .inl ⟨_,n,m,e1,e3,e2⟩;omega;omega;exact .inr ⟨n,m,e1,e3,e2⟩
         simp only[aM] at h;cases hq:fEq u v with
         | none=>rw[hq] at h;cases h
         | some q =>
           rw[hq] at h;simp only[Op.eqFields,hn,ne_eq,not_false_eq_true,if_true,ho];simp only[Lc,tJ cB xs.toArray off hxu,tJ cB ys.toArray off hyv,Option.bind_some,alR d hkk hq];cases q with
           | false =>
             have:r=false:=by simpa using h.symm
             subst this;rfl
           | true =>
             have ih:=ih (off+1) ks xs ys us vs r Lo (λi f' hi=>by
               have:=hf (i+1) f' (by simpa using hi)
               exact⟨this.1,by rw[this.2];omega⟩) (by rw[<- List.tail_drop,hx];rfl) (by rw[<- List.tail_drop,hy];rfl) h1.2 h2.2 (by simpa using h)
             simpa using ih
structure Flat(P:Program)(t:TypeId)(ks:List Nat):Prop where
 st:P.underlying t=some (.struct (P.fieldsOf t))
 hp:P.stoodInHeld t=false
 hm:P.eqGuardType P.depth t=false
 kd:(P.fieldsOf t).toList.map (λf=>Uk P f.type)=ks
 nm:(P.fieldsOf t).toList.map (λf=>decide (f.name≠"_"))=List.replicate ks.length true
 of:(P.fieldsOf t).toList.map (λf=>f.offset)=List.range ks.length
def aa7(vs:List Value):Ri (vs.map .sc)=some vs:=by
 induction vs with
 | nil=>rfl
 | cons v vs ih=>simp[Ri,TG,ih]
def Flat.pv{P:Program}{t:TypeId}{ks:List Nat}(h:Flat P t ks){us vs:List Value}{r:Bool}(h1:r9 ks us)(h2:r9 ks vs)(h3:aM us vs=some r):AI.pv P (Op.equalIn (9998+1+1) t (.agg us.toArray) (.agg vs.toArray))=some r:=by
 rw[Xw _ _ _ _ h.st h.hp];refine abq 9998 _ 0 ks us vs us vs r h.kd (λi f hf=>?_) rfl rfl h1 h2 h3
 have hl:i < ks.length:=by
   have:=(List.getElem?_eq_some_iff.1 hf).1;have h5:=congrArg List.length h.kd;simp at h5 this;omega
 have a1:=congrArg (λl=>l[i]?) h.nm;have a2:=congrArg (λl=>l[i]?) h.of;simp only[List.getElem?_map,hf,Option.map_some,List.getElem?_replicate,hl,if_true,Option.some.injEq,decide_eq_true_eq] at a1;simp only[List.getElem?_map,hf,Option.map_some,List.getElem?_range hl,Option.some.injEq] at a2;exact⟨a1,by omega⟩
def Flat.bin{P:Program}{t:TypeId}{ks:List Nat}(h:Flat P t ks){us vs:List Value}{r:Bool}(h1:r9 ks us)(h2:r9 ks vs)(h3:aM us vs=some r)(x y:Operand) :
   L2 P .eql t x y (.agg (us.map .sc)) (.agg (vs.map .sc))=some (.sc (.bool r))/\L2 P .neq t x y (.agg (us.map .sc)) (.agg (vs.map .sc))=some (.sc (.bool (!r))):=by
 have ht:∀l:List Value,Ym (.agg (l.map .sc))=some (.agg l.toArray):=λl=>by simp only[Ym,aa7,Option.map_some]
 have hv:=h.pv h1 h2 h3
 have e1:AI.pv P (do eqGuard .eql t x y (.agg us.toArray) (.agg vs.toArray);binOp .eql t (.agg us.toArray) (.agg vs.toArray))=some (.bool r):=by
   rw[Lc,qX _ _ _ _ _ _ h.hm];simp only[Option.bind_some,binOp,Lc,Op.equal,Op.maxDepth];rw[show(10000:Nat)=9998+1+1 from rfl,hv];rfl
 have e2:AI.pv P (do eqGuard .neq t x y (.agg us.toArray) (.agg vs.toArray);binOp .neq t (.agg us.toArray) (.agg vs.toArray))=some (.bool (!r)):=by
   rw[Lc,qX _ _ _ _ _ _ h.hm];simp only[Option.bind_some,binOp,Lc,Op.equal,Op.maxDepth];rw[show(10000:Nat)=9998+1+1 from rfl,hv];rfl
 refine⟨?_,?_⟩;show VW _ _ _ _ _ (.agg _) (.agg _)=_;unfold VW;simp only[ht,e1,Option.bind_some];rfl;show VW _ _ _ _ _ (.agg _) (.agg _)=_;unfold VW;simp only[ht,e2,Option.bind_some];rfl
def sC(x y:Int):Int:=if y > x then y else x
def acE(x y:Int):Int:=if y < x then y else x
end AI
namespace AI
open Go Go.RowKit
mutual
inductive Rn(k j:Nat)(ρ σ:Nat->Nat):AV->AV->Prop where
 | pl {a:AV} (h:plain a=true):Rn k j ρ σ a a
 | ptr {i off:Nat} (h:i < k):Rn k j ρ σ (.ptr i off) (.ptr (ρ i) off)
 | mp {i:Nat} (h:i < k):Rn k j ρ σ (.mp i) (.mp (ρ i))
 | G2 {i off n:Nat} (h:i < k):Rn k j ρ σ (.G2 i off n) (.G2 (ρ i) off n)
 | row {r sz n:Nat} {cs:List AV} (h:r < j) (hp:Bx cs=true):Rn k j ρ σ (.sl (.row r sz) n cs) (.sl (.row (σ r) sz) n cs)
 | agg {cs ds:List AV} (h:V4 k j ρ σ cs ds):Rn k j ρ σ (.agg cs) (.agg ds)
 | Bj {cs ds:List AV} (h:V4 k j ρ σ cs ds):Rn k j ρ σ (.Bj cs) (.Bj ds)
 | fn {f:Fn} {a a' b b':List AV} (h1:V4 k j ρ σ a a') (h2:V4 k j ρ σ b b'):Rn k j ρ σ (.fn f a b) (.fn f a' b')
inductive V4(k j:Nat)(ρ σ:Nat->Nat):List AV->List AV->Prop where
 | nil:V4 k j ρ σ [] []
 | cons {a b:AV} {l m:List AV} (h:Rn k j ρ σ a b) (t:V4 k j ρ σ l m):V4 k j ρ σ (a::l) (b::m)
end
inductive RnB(k j:Nat)(ρ σ:Nat->Nat):Bb->Bb->Prop where
 | cells {cs ds:List AV} (h:V4 k j ρ σ cs ds):RnB k j ρ σ (.cells cs) (.cells ds)
 | map {es:List (Value×AV×Nat)} {cl:Nat} (h:∀e∈es,plain e.2.1=true):RnB k j ρ σ (.map es cl) (.map es cl)
def V4.pl{k j:Nat}{ρ σ:Nat->Nat}:∀{l:List AV},Bx l=true->V4 k j ρ σ l l
 | [],_=>.nil
 | a::l,h=>by
   simp only[Bx,Bool.and_eq_true] at h;exact .cons (.pl h.1) (V4.pl h.2)
section
variable {c c':Cx} {w w':World} {k j:Nat} {ρ σ:Nat->Nat}
structure Dn(k j:Nat)(ρ σ:Nat->Nat)(c:Cx)(w:World)(c0:Cx)(w0:World):Prop where
 qP:∀g i v,Pu c w g i v->Pu c0 w0 g i v
 C6:∀i g,i < k->c.C6[ρ i]?=some (some g)->c0.C6[i]?=some (some g)
 rows:∀r,r < j->∃x,c.rows[σ r]?=some x/\c0.rows[r]?=some x
structure Up(k j:Nat)(ρ σ:Nat->Nat)(c0:Cx)(w0:World)(c:Cx)(w:World):Prop where
 qP:∀g i v,Pu c0 w0 g i v->Pu c w g i v
 C6:∀i g,i < k->c0.C6[i]?=some (some g)->c.C6[ρ i]?=some (some g)
 rows:∀r,r < j->∃x,c.rows[σ r]?=some x/\c0.rows[r]?=some x
mutual
def Rn.down(d:Dn k j ρ σ c w c' w'):∀{a b:AV} {v:Value},Rn k j ρ σ a b->Rp c w b v->Rp c' w' a v:=by
 intro a b v hn h;cases hn with
 | pl hp=>exact h.plain d.qP hp
 | ptr hi=>cases h with | ptr h1=>exact .ptr (d.C6 _ _ hi h1)
 | mp hi=>cases h with | mp h1=>exact .mp (d.C6 _ _ hi h1)
 | G2 hi=>cases h with | G2 hn h1=>exact .G2 hn (d.C6 _ _ hi h1)
 | @row r sz n cs hr hp =>
   obtain⟨x,hx,u5⟩:=d.rows r hr;have hl:=(List.getElem?_eq_some_iff.1 u5).1;cases h with
   | Ln h0=>exact .Ln ⟨h0.1,hl⟩
   | Pg hn hc ho =>
     refine .Pg hn (hc.plain d.qP hp) ⟨ho.1,ho.2.1,hl,λe=>ho.2.2.2.1 ?_,λg' n' DQ Qc e=>ho.2.2.2.2 g' n' DQ Qc ?_⟩;rw[hx,<- u5];exact e;rw[hx,<- u5];exact e
 | agg h1=>cases h with | agg h2=>exact .agg (V4.down d h1 h2)
 | Bj h1=>cases h with | Bj h2=>exact .Bj (V4.down d h1 h2)
 | fn h1 h2=>cases h with | fn h3 h4=>exact .fn (V4.down d h1 h3) (V4.down d h2 h4)
def V4.down(d:Dn k j ρ σ c w c' w'):∀{a b:List AV} {v:List Value},V4 k j ρ σ a b->C8 c w b v->C8 c' w' a v:=by
 intro a b v hn h;cases hn with
 | nil=>cases h;exact .nil
 | cons h1 t=>cases h with | cons h2 t2=>exact .cons (Rn.down d h1 h2) (V4.down d t t2)
end
mutual
def Rn.up(d:Up k j ρ σ c w c' w'):∀{a b:AV} {v:Value},Rn k j ρ σ a b->Rp c w a v->Rp c' w' b v:=by
 intro a b v hn h;cases hn with
 | pl hp=>exact h.plain d.qP hp
 | ptr hi=>cases h with | ptr h1=>exact .ptr (d.C6 _ _ hi h1)
 | mp hi=>cases h with | mp h1=>exact .mp (d.C6 _ _ hi h1)
 | G2 hi=>cases h with | G2 hn h1=>exact .G2 hn (d.C6 _ _ hi h1)
 | @row r sz n cs hr hp =>
   obtain⟨x,hx,u5⟩:=d.rows r hr;have hl:=(List.getElem?_eq_some_iff.1 hx).1;cases h with
   | Ln h0=>exact .Ln ⟨h0.1,hl⟩
   | Pg hn hc ho =>
     refine .Pg hn (hc.plain d.qP hp) ⟨ho.1,ho.2.1,hl,λe=>ho.2.2.2.1 ?_,λg' n' DQ Qc e=>ho.2.2.2.2 g' n' DQ Qc ?_⟩;rw[u5,<- hx];exact e;rw[u5,<- hx];exact e
 | agg h1=>cases h with | agg h2=>exact .agg (V4.up d h1 h2)
 | Bj h1=>cases h with | Bj h2=>exact .Bj (V4.up d h1 h2)
 | fn h1 h2=>cases h with | fn h3 h4=>exact .fn (V4.up d h1 h3) (V4.up d h2 h4)
def V4.up(d:Up k j ρ σ c w c' w'):∀{a b:List AV} {v:List Value},V4 k j ρ σ a b->C8 c w a v->C8 c' w' b v:=by
 intro a b v hn h;cases hn with
 | nil=>cases h;exact .nil
 | cons h1 t=>cases h with | cons h2 t2=>exact .cons (Rn.up d h1 h2) (V4.up d t t2)
end
def Mk.plain(hv:∀g i v,Pu c w g i v->Pu c' w' g i v):∀{es:List (Value×AV×Nat)} {fs:List MapEntry},(∀e∈es,AI.plain e.2.1=true)->Mk c w es fs->Mk c' w' es fs:=by
 intro es
 induction es with
 | nil=>intro fs _ h;cases h;exact .nil
 | cons e es ih =>
   intro fs hp h;cases h with | cons h1 t=>exact .cons (h1.plain hv (hp _ List.mem_cons_self)) (ih (λx hx=>hp x (List.mem_cons_of_mem _ hx)) t)
def RnB.down(d:Dn k j ρ σ c w c' w'){a b:Bb}{o:Obj}(hn:RnB k j ρ σ a b)(h:FR c w b o):FR c' w' a o:=by
 cases hn with
 | cells h1=>cases h with | GZ ext h2=>exact .GZ ext (V4.down d h1 h2)
 | map hp=>cases h with | map h2=>exact .map (h2.plain d.qP hp)
def RnB.up(d:Up k j ρ σ c w c' w'){a b:Bb}{o:Obj}(hn:RnB k j ρ σ a b)(h:FR c w a o):FR c' w' b o:=by
 cases hn with
 | cells h1=>cases h with | GZ ext h2=>exact .GZ ext (V4.up d h1 h2)
 | map hp=>cases h with | map h2=>exact .map (h2.plain d.qP hp)
end
structure Upd(k j:Nat)(ρ σ:Nat->Nat)(h2:List (Nat×Bb))(F2:List (Nat×Nat))(s s2:AS):Prop where
 nx:s2.nx=s.nx
 nr:s2.nr=s.nr
 desc:∀n,KO s.h n->KO s2.h n
 get:∀id b,s2.get id=some b->(∃i b0,i < k/\id=ρ i/\look i h2=some b0/\RnB k j ρ σ b0 b)\/((∀i,i < k->id≠ρ i)/\s.get id=some b)
 tok:∀q n,Ec q s2.F=some n->(∃r,r < j/\q=σ r/\Ec r F2=some n)\/((∀r,r < j->q≠σ r)/\Ec q s.F=some n)
def RnR(k j:Nat)(ρ σ:Nat->Nat):CR->CR->Prop
 | .ret v,.ret v'=>Rn k j ρ σ v v'
 | .Mq v,.Mq v'=>Rn k j ρ σ v v'
 | _,_=>False
def alG{P:Program}{G:Bh}(hG:∀g cs,G g=some cs->Bx cs=true){f:FuncId}{args eX:List AV}{r r':CR}{hm h2:List (Nat×Bb)}{k j:Nat}{Fm F2:List (Nat×Nat)}(h:Sound P G (.call f args ⟨hm,k,Fm,j⟩ r ⟨h2,k,F2,j⟩))(hd:KO hm k)
   (ρ σ:Nat->Nat) (asU:∀i i',i < k->i' < k->ρ i=ρ i'->i=i') (aj1:∀i i',i < j->i' < j->σ i=σ i'->i=i') (G6:V4 k j ρ σ args eX)
   {s s2:AS} (wA:∀i b,i < k->look i hm=some b->∃b',s.get (ρ i)=some b'/\RnB k j ρ σ b b')
   (aT:∀cx w vs,St G cx w s->C8 cx w eX vs->∀i,i < k->∃g,cx.C6[ρ i]?=some (some g))
   (aoS:∀q n,q < j->Ec q Fm=some n->Ec (σ q) s.F=some n) (apO:∀q,q < j->∃n,Ec q Fm=some n) (hFm:∀q n,Ec q Fm=some n->q < j)
   (hr:RnR k j ρ σ r r')
   (hu:Upd k j ρ σ h2 F2 s s2):Sound P G (.call f eX s r' s2):=by
 intro cx w vs hs ha;have hph:=aT cx w vs hs ha
 have hg:∀i:Nat,∃g,i < k->cx.C6[ρ i]?=some (some g):=λi=>by
   by_cases hi:i < k;obtain⟨g,hg⟩:=hph i hi;exact⟨g,λ_=>hg⟩;exact⟨0,λh=>absurd h hi⟩
 obtain⟨gs,hgs⟩:=Classical.axiomOfChoice hg
 have hrw:∀q:Nat,∃x,q < j->cx.rows[σ q]?=some x:=λq=>by
   by_cases hq:q < j;obtain⟨n,hn⟩:=apO q hq;rcases hs.Lm _ _ (aoS q n hq hn) with ⟨h1,_⟩ | ⟨g,cap,sz,h1⟩
   exact⟨_,λ_=>h1⟩;exact⟨_,λ_=>h1⟩;exact⟨.gone,λh=>absurd h hq⟩
 obtain⟨rw,hrw⟩:=Classical.axiomOfChoice hrw;have I5:∀i,i < k->some (gs i)∈cx.C6:=λi hi=>List.mem_of_getElem? (hgs i hi);have hgi:∀i i',i < k->i' < k->gs i=gs i'->i=i':=λi i' hi QZ e=>asU i i' hi QZ (hs.nodup _ _ _ (hgs i hi) (by rw[e];exact hgs i' QZ));let K:Nat->Prop:=λq=>(∃i,i < k/\q=gs i)\/∃r n cap sz,r < j/\cx.rows[σ r]?=some (.U7 q n cap sz);let c0:Cx:=⟨0,(List.range k).map λi=>some (gs i),(List.range j).map rw,λq i=>¬K q/\cx.iT q i⟩
 have aB:∀(i g:Nat),c0.C6[i]?=some (some g)↔i < k/\g=gs i:=by
   intro i g;show((List.range k).map λi=>some (gs i))[i]?=some (some g)↔_;rw[List.getElem?_map];by_cases hi:i < k;rw[List.getElem?_range hi];simp[hi,eq_comm];rw[List.getElem?_eq_none (by simp;omega)];simp[hi]
 have aa0:∀g,some g∈c0.C6->∃i,i < k/\g=gs i:=by
   intro g kS;obtain⟨i,hi,e⟩:=List.mem_map.1 kS;exact⟨i,List.mem_range.1 hi,(Option.some.inj e).symm⟩
 have kN:∀(q:Nat) x,c0.rows[q]?=some x->q < j/\cx.rows[σ q]?=some x:=by
   intro q x hx;have hx:((List.range j).map rw)[q]?=some x:=hx;have hl:=(List.getElem?_eq_some_iff.1 hx).1;simp at hl;rw[List.getElem?_map,List.getElem?_range hl] at hx;simp at hx;subst hx;exact⟨hl,hrw q hl⟩
 have wZ:∀q,q < j->c0.rows[q]?=some (rw q):=by
   intro q hq;show((List.range j).map rw)[q]?=some (rw q);rw[List.getElem?_map,List.getElem?_range hq];rfl
 have aez:c0.rows.length=j:=by show((List.range j).map rw).length=j;simp
 have Ls:∀g i x,Pu cx w g i x->Pu c0 w g i x:=by
   intro g i x hx;refine⟨hx.1,λMF=>?_,hx.2.2⟩;rcases MF with MF | ⟨r,n,cap,sz,hr,h1,h2⟩ | MF
   obtain⟨i',QZ,rfl⟩:=aa0 g MF;exact hx.2.1 (.inl (I5 i' QZ));exact hx.2.1 (.inr (.inl ⟨σ r,n,cap,sz,(kN _ _ hr).2,h1,h2⟩));exact hx.2.1 MF.2
 have hdn:Dn k j ρ σ cx w c0 w:=⟨Ls,λi g hi kS=>by
   rw[aB];rw[hgs i hi] at kS;cases kS;exact⟨hi,rfl⟩,λq hq=>⟨rw q,hrw q hq,wZ q hq⟩⟩
 have HK:St G c0 w ⟨hm,k,Fm,j⟩:=by
   refine⟨by simp[c0],hd,λi i' g h1 h2=>?_,λg _=>Nat.zero_le _,λid g b h1 h2=>?_,aez.symm,λq g n cap sz hq=>?_,λq n hq=>?_,λg kS=>?_,(λq i hb=>hs.ZB hb.2),λq q' g n cap sz n' DQ Qc h1 h2=>?_,(λg cs kS=>Bn.plain Ls (hG g cs kS) (hs.RN g cs kS)),Nat.zero_le _⟩;obtain⟨hi,e1⟩:=(aB i g).1 h1;obtain⟨QZ,e2⟩:=(aB i' g).1 h2;exact hgi i i' hi QZ (e1.symm.trans e2);obtain⟨hi,rfl⟩:=(aB id g).1 h1;obtain⟨b',Vw,hn⟩:=wA id b hi h2;obtain⟨o,ho,hb⟩:=hs.box (ρ id) (gs id) _ (hgs id hi) Vw;exact⟨o,ho,hn.down hdn hb⟩;obtain⟨hq1,vE⟩:=kN _ _ hq;obtain⟨_,_,a3,a4,a5⟩:=hs.row _ _ _ _ _ vE;refine⟨λi hb=>hb.1 (.inr ⟨q,n,cap,sz,hq1,vE⟩),Nat.zero_le _,λhm'=>?_,a4,a5⟩;obtain⟨i,hi,rfl⟩:=aa0 g hm';exact a3 (I5 i hi);have IJ:=hFm q n hq;have:=hs.Lm _ _ (aoS q n IJ hq);rw[hrw q IJ] at this;rw[wZ q IJ];exact this;obtain⟨i,hi,rfl⟩:=aa0 g kS;exact hs.Oe (I5 i hi);obtain⟨a1,a2⟩:=kN _ _ h1;obtain⟨b1,b2⟩:=kN _ _ h2;exact aj1 _ _ a1 b1 (hs.KK _ _ _ _ _ _ _ _ _ a2 b2)
 refine(h c0 w vs HK (G6.down hdn ha)).mono ?_;rintro e w' ⟨c',hx,TA,adx⟩
 have iL:c'.C6=c0.C6:=by
   obtain⟨t,ht⟩:=hx.C6;have h1:c'.C6.length=k:=TA.len.symm;have h2:c0.C6.length=k:=by simp[c0]
   rw[<- ht,List.length_append,h2] at h1;have:t=[]:=List.eq_nil_of_length_eq_zero (by omega);rw[<- ht,this,List.append_nil]
 have aoD:c'.rows.length=j:=TA.Kr.symm;have acU:∀q,q < j->∃y,c'.rows[q]?=some y:=λq hq=>⟨_,List.getElem?_eq_getElem (by rw[aoD];exact hq)⟩
 have hle:∀q y,q < j->c'.rows[q]?=some y->Ow (rw q) y:=by
   intro q y hq hy;obtain⟨x,h1,h2⟩:=hx.rows q y (by rw[aez];exact hq) hy;rw[wZ q hq] at h1;cases h1;exact h2
 let sP:List Rw:=(List.range cx.rows.length).map λq=>open Classical in if hq:∃r,r < j/\σ r=q then c'.rows.getD (Classical.choose hq) .gone else cx.rows.getD q .gone
 have aeN:sP.length=cx.rows.length:=by simp[sP]
 have jH:∀r,r < j->sP[σ r]?=c'.rows[r]?:=by
   intro r hr;have hl:=(List.getElem?_eq_some_iff.1 (hrw r hr)).1;show((List.range cx.rows.length).map _)[σ r]?=_;rw[List.getElem?_map,List.getElem?_range hl];simp only[Option.map_some];have hq:∃r',r' < j/\σ r'=σ r:=⟨r,hr,rfl⟩;rw[dif_pos hq];have hc:=Classical.choose_spec hq;have:Classical.choose hq=r:=aj1 _ _ hc.1 hr hc.2;rw[this];obtain⟨y,hy⟩:=acU r hr;rw[List.getD_eq_getElem?_getD,hy];rfl
 have mU:∀q,(∀r,r < j->q≠σ r)->sP[q]?=cx.rows[q]?:=by
   intro q hq;by_cases hl:q < cx.rows.length;show((List.range cx.rows.length).map _)[q]?=_;rw[List.getElem?_map,List.getElem?_range hl];simp only[Option.map_some];rw[dif_neg (by rintro⟨r,h1,h2⟩;exact hq r h1 h2.symm),List.getD_eq_getElem?_getD,List.getElem?_eq_getElem hl];rfl;rw[List.getElem?_eq_none (by omega),List.getElem?_eq_none (by omega)]
 have VZ:∀q:Nat,(∃r,r < j/\q=σ r)\/∀r,r < j->q≠σ r:=λq=>by
   by_cases hq:∃r,r < j/\q=σ r;exact .inl hq;exact .inr λr h1 h2=>hq ⟨r,h1,h2⟩
 have jP:∀r g n cap sz,r < j->c'.rows[r]?=some (.U7 g n cap sz)->(∃r0 n0 VR vB,r0 < j/\cx.rows[σ r0]?=some (.U7 g n0 VR vB))\/w.heap.size<=g:=by
   intro r g n cap sz hr hy;rcases hx.tF _ _ _ _ _ hy with ⟨r0,n0,VR,vB,h1⟩ | h1
   obtain⟨h2,h3⟩:=kN _ _ h1;exact .inl ⟨r0,n0,VR,vB,h2,h3⟩;exact .inr h1
 have Ou:=hx.below
 have Ur:sL w w' K:=⟨Ou.os,Ou.tape,Ou.output,Ou.size,λq hq KS=>hx.fM q hq (λhm'=>KS (.inl (aa0 q hm'))) (λr n cap sz hr=>KS (by
   obtain⟨h1,h2⟩:=kN _ _ hr;exact .inr ⟨r,n,cap,sz,h1,h2⟩))⟩
 have hKb:∀q,K q->cx.base<=q:=by
   rintro q (⟨i,hi,rfl⟩ | ⟨r,n,cap,sz,hr,h1⟩);exact hs.low _ (I5 i hi);exact(hs.row _ _ _ _ _ h1).2.1
 let c1:Cx:=⟨cx.base,cx.C6,sP,cx.bad⟩
 have aH:∀g i x,Pu c' w' g i x->Pu c1 w' g i x:=by
   intro g i x hv;refine⟨hv.1,λMF=>hv.2.1 ?_,hv.2.2⟩;have Q1:¬K g->cx.iT g i->c'.iT g i:=λh1 h2=>.inr (.inr (by rw[hx.bad];exact⟨h1,h2⟩));rcases MF with MF | ⟨q,n,cap,sz,hq,h1,h2⟩ | MF
   by_cases hK:K g;rcases hK with ⟨i',QZ,rfl⟩ | ⟨r,n,cap,sz,hr,h1⟩
   refine .inl ?_;rw[iL];exact List.mem_of_getElem? ((aB i' (gs i')).2 ⟨QZ,rfl⟩);exact absurd MF (hs.row _ _ _ _ _ h1).2.2.1;exact Q1 hK (.inl MF);rcases VZ q with ⟨r,hr,rfl⟩ | qJ
   simp only[c1] at hq;rw[jH r hr] at hq;exact .inr (.inl ⟨r,n,cap,sz,hq,h1,h2⟩);simp only[c1] at hq;rw[mU q qJ] at hq;refine Q1 ?_ (.inr (.inl ⟨q,n,cap,sz,hq,h1,h2⟩));rintro(⟨i',QZ,rfl⟩ | ⟨r,n',DQ,Qc,hr,h3⟩);exact(hs.row _ _ _ _ _ hq).2.2.1 (I5 i' QZ);exact qJ r hr (hs.KK _ _ _ _ _ _ _ _ _ hq h3);by_cases hK:K g;rcases hK with ⟨i',QZ,rfl⟩ | ⟨r,n,cap,sz,hr,h1⟩
   refine .inl ?_;rw[iL];exact List.mem_of_getElem? ((aB i' (gs i')).2 ⟨QZ,rfl⟩);exact absurd MF ((hs.row _ _ _ _ _ h1).1 i);exact Q1 hK (.inr (.inr MF))
 have ext:Ext cx w c1 w':=by
   refine⟨List.prefix_refl _,by simp[c1,aeN],λq y hq hy=>?_,λg i x hv=>aH g i x (hx.qP g i x (Ls g i x hv)),Ur.below hs.Xh hKb,rfl,rfl,λ_ h=>.inl h,λq g n cap sz hq=>?_,λq hq hp hr=>Ur.block q hq ?_⟩;rcases VZ q with ⟨r,hr,rfl⟩ | qJ
   simp only[c1] at hy;rw[jH r hr] at hy;exact⟨rw r,hrw r hr,hle r y hr hy⟩;simp only[c1] at hy;rw[mU q qJ] at hy;exact⟨y,hy,Ow.refl y⟩;rcases VZ q with ⟨r,hr,rfl⟩ | qJ
   simp only[c1] at hq;rw[jH r hr] at hq;rcases jP _ _ _ _ _ hr hq with ⟨r0,n0,VR,vB,_,h1⟩ | h1
   exact .inl ⟨_,_,_,_,h1⟩;exact .inr h1;simp only[c1] at hq;rw[mU q qJ] at hq;exact .inl ⟨_,_,_,_,hq⟩;rintro(⟨i',QZ,rfl⟩ | ⟨r,n',DQ,Qc,kV,h3⟩);exact hp (I5 i' QZ);exact hr _ _ _ _ h3
 have hup:Up k j ρ σ c' w' c1 w':=⟨aH,λi g hi kS=>by
   rw[iL,aB] at kS;obtain⟨_,rfl⟩:=kS;exact hgs i hi,λq hq=>by
   obtain⟨y,hy⟩:=acU q hq;exact⟨y,by simp only[c1];rw[jH q hq];exact hy,hy⟩⟩
 have st1:St G c1 w' s2:=by
   refine⟨by rw[hu.nx,hs.len],by rw[hu.nx];exact hu.desc _ hs.desc,hs.nodup,hs.low,λid g b h1 h2=>?_,by rw[hu.nr,hs.Kr];exact aeN.symm,λq g n cap sz hq=>?_,λq n hq=>?_,λg kS=>Nat.lt_of_lt_of_le (hs.T8 g kS) Ur.size,λg i hb=>Nat.lt_of_lt_of_le (hs.SR g i hb) Ur.size,λq q' g n cap sz n' DQ Qc h1 h2=>?_,λg cs kS=>(hs.RN g cs kS).mono ext,Nat.le_trans hs.Xh Ur.size⟩;rcases hu.get id b h2 with ⟨i,b0,hi,rfl,hb0,hn⟩ | ⟨KS,h3⟩
   obtain⟨o,ho,hb⟩:=TA.box i (gs i) b0 (by rw[iL];exact(aB i (gs i)).2 ⟨hi,rfl⟩) hb0;have h1:cx.C6[ρ i]?=some (some g):=h1;rw[hgs i hi] at h1;cases h1;exact⟨o,ho,hn.up hup hb⟩;obtain⟨o,ho,hb⟩:=hs.box id g b h1 h3;refine⟨o,?_,hb.mono ext⟩;rw[Ur.block g (Array.getElem?_eq_some_iff.1 ho).1 ?_];exact ho;rintro(⟨i',QZ,rfl⟩ | ⟨r,n',DQ,Qc,kV,h4⟩);exact KS i' QZ (hs.nodup _ _ _ h1 (hgs i' QZ));exact(hs.row _ _ _ _ _ h4).2.2.1 (List.mem_of_getElem? h1);simp only[c1] at hq ⊢;rcases VZ q with ⟨r,kV,rfl⟩ | qJ
   rw[jH r kV] at hq;obtain⟨a1,a2,a3,a4,a5⟩:=TA.row _ _ _ _ _ hq;rcases jP _ _ _ _ _ kV hq with ⟨r0,n0,VR,vB,_,h4⟩ | h4
   obtain⟨b1,b2,b3,_⟩:=hs.row _ _ _ _ _ h4;exact⟨b1,b2,b3,a4,a5⟩;refine⟨λi hb=>?_,Nat.le_trans hs.Xh h4,λhm'=>?_,a4,a5⟩;have:=hs.SR _ _ hb;omega;have:=hs.Oe hm';omega;rw[mU q qJ] at hq;obtain⟨a1,a2,a3,a4,vs',T,a5,a6⟩:=hs.row _ _ _ _ _ hq;refine⟨a1,a2,a3,a4,vs',T,?_,a6⟩;rw[Ur.block g (Array.getElem?_eq_some_iff.1 a5).1 ?_];exact a5;rintro(⟨i',QZ,rfl⟩ | ⟨r,n',DQ,Qc,kV,h4⟩);exact a3 (I5 i' QZ);exact qJ r kV (hs.KK _ _ _ _ _ _ _ _ _ hq h4);simp only[c1];rcases hu.tok q n hq with ⟨r,kV,rfl,h3⟩ | ⟨qJ,h3⟩
   rw[jH r kV];exact TA.Lm r n h3;rw[mU q qJ];exact hs.Lm q n h3;simp only[c1] at h1 h2
   have key:∀r q,r < j->(∀r',r' < j->q≠σ r')->∀n cap sz n' DQ Qc,c'.rows[r]?=some (.U7 g n cap sz)->cx.rows[q]?=some (.U7 g n' DQ Qc)->False:=by
     intro r q kV qJ n cap sz n' DQ Qc e1 e2;rcases jP _ _ _ _ _ kV e1 with ⟨r0,n0,VR,vB,hr0,h4⟩ | h4
     exact qJ r0 hr0 (hs.KK _ _ _ _ _ _ _ _ _ e2 h4);have:=hs.Xd e2;omega
   rcases VZ q with ⟨r,kV,rfl⟩ | hq1<;>rcases VZ q' with ⟨r2,uW,rfl⟩ | vE
   rw[jH r kV] at h1;rw[jH r2 uW] at h2;rw[TA.KK _ _ _ _ _ _ _ _ _ h1 h2];rw[jH r kV] at h1;rw[mU q' vE] at h2;exact(key r q' kV vE _ _ _ _ _ _ h1 h2).elim;rw[mU q hq1] at h1;rw[jH r2 uW] at h2;exact(key r2 q uW hq1 _ _ _ _ _ _ h2 h1).elim;rw[mU q hq1] at h1;rw[mU q' vE] at h2;exact hs.KK _ _ _ _ _ _ _ _ _ h1 h2
 refine⟨c1,ext,st1,?_⟩;cases r with
 | ret v =>
   cases r' with
   | ret v' =>
     obtain⟨u,rfl,hu'⟩:=adx;exact⟨u,rfl,Rn.up hup hr hu'⟩
   | Mq v'=>exact hr.elim
 | Mq v =>
   cases r' with
   | ret v'=>exact hr.elim
   | Mq v' =>
     obtain⟨u,rfl,hu'⟩:=adx;exact⟨u,rfl,Rn.up hup hr hu'⟩
end AI
namespace AI
open Go Go.RowKit
def YN:List Bb->Nat->List (Nat×Bb)->List (Nat×Bb)
 | [],_,acc=>acc
 | b::l,n,acc=>YN l (n+1) ((n,b)::acc)
def yB:List Nat->Nat->List (Nat×Nat)
 | [],_=>[]
 | k::l,n=>(n,k)::yB l (n+1)
def v8{M:List Bb}:∀{n:Nat} {acc:List (Nat×Bb)} {i:Nat} {b:Bb},KO acc n->look i (YN M n acc)=some b->(n<=i/\M[i - n]?=some b)\/look i acc=some b:=by
 induction M with
 | nil=>intro n acc i b _ h;exact .inr h
 | cons x M ih =>
   intro n acc i b hd h;rcases ih (n:=n+1) (acc:=(n,x)::acc) ⟨Nat.lt_succ_self n,hd⟩ h with ⟨h1,h2⟩ | h1
   refine .inl ⟨by omega,?_⟩;rw[show i - n=(i - (n+1))+1 by omega];exact h2;simp only[look] at h1;split at h1;rename_i hb;have:=beq_true hb;subst this;cases h1;exact .inl ⟨Nat.le_refl _,by simp⟩;exact .inr h1
def yT{M:List Bb}:∀{n:Nat} {acc:List (Nat×Bb)},KO acc n->KO (YN M n acc) (n+M.length):=by
 induction M with
 | nil=>intro n acc h;exact h
 | cons x M ih =>
   intro n acc h;have:=ih (n:=n+1) (acc:=(n,x)::acc) ⟨Nat.lt_succ_self n,h⟩;rw[List.length_cons,show n+(M.length+1)=n+1+M.length by omega];exact this
def Zm{T:List Nat}:∀{n r k:Nat},Ec r (yB T n)=some k->n<=r/\T[r - n]?=some k:=by
 induction T with
 | nil=>intro n r k h;cases h
 | cons x T ih =>
   intro n r k h;simp only[yB,Ec] at h;split at h;rename_i hb;have:=beq_true hb;subst this;cases h;exact⟨Nat.le_refl _,by simp⟩;obtain⟨h1,h2⟩:=ih h;refine⟨by omega,?_⟩;rw[show r - n=(r - (n+1))+1 by omega];exact h2
def lR{T:List Nat}:∀{n r:Nat},n<=r->r - n < T.length->∃k,Ec r (yB T n)=some k:=by
 induction T with
 | nil=>intro n r _ h;simp at h
 | cons x T ih =>
   intro n r h1 h2;simp only[yB,Ec];split;exact⟨_,rfl⟩;rename_i hb;have:=beq_false hb;exact ih (by omega) (by simp at h2;omega)
inductive fW(k j:Nat)(ρ σ:Nat->Nat):List Bb->List (Nat×Bb)->Prop where
 | nil:fW k j ρ σ [] []
 | cons {b b':Bb} {i:Nat} {l:List Bb} {m:List (Nat×Bb)} (h:RnB k j ρ σ b b') (t:fW k j ρ σ l m):fW k j ρ σ (b::l) ((i,b')::m)
def fW.len{k j:Nat}{ρ σ:Nat->Nat}{l:List Bb}{m:List (Nat×Bb)}(h:fW k j ρ σ l m):l.length=m.length:=by
 induction h with
 | nil=>rfl
 | cons _ _ ih=>simp[ih]
def fW.get{k j:Nat}{ρ σ:Nat->Nat}{l:List Bb}{m:List (Nat×Bb)}(h:fW k j ρ σ l m):∀{i:Nat} {b:Bb},l[i]?=some b->∃e,m[i]?=some e/\RnB k j ρ σ b e.2:=by
 induction h with
 | nil=>intro i b hb;simp at hb
 | cons h _ ih =>
   intro i b hb;cases i with
   | zero=>simp at hb;subst hb;exact⟨_,rfl,h⟩
   | succ i=>exact ih (by simpa using hb)
def fW.ar8{k j:Nat}{ρ σ:Nat->Nat}{l:List Bb}{m:List (Nat×Bb)}(h:fW k j ρ σ l m):∀{i:Nat} {e:Nat×Bb},m[i]?=some e->∃b,l[i]?=some b/\RnB k j ρ σ b e.2:=by
 induction h with
 | nil=>intro i b hb;simp at hb
 | cons h _ ih =>
   intro i b hb;cases i with
   | zero=>simp at hb;subst hb;exact⟨_,rfl,h⟩
   | succ i=>exact ih (by simpa using hb)
def sR:∀(l:List (Nat×Bb)) (s:AS) (id:Nat) (b:Bb),(s.ZA l).get id=some b->(∃e∈l,e.1=id/\e.2=b)\/((∀e∈l,e.1≠id)/\s.get id=some b)
 | [],s,id,b,h=>.inr ⟨(λe he=>by cases he),h⟩
 | e::l,s,id,b,h=>by
   rcases sR l (s.put e.1 e.2) id b h with ⟨x,hx,h1⟩ | ⟨h1,h2⟩
   exact .inl ⟨x,List.mem_cons_of_mem _ hx,h1⟩;rcases XA h2 with ⟨h3,h4⟩ | ⟨h3,h4⟩
   exact .inl ⟨e,List.mem_cons_self,h3.symm,h4.symm⟩;refine .inr ⟨λx hx=>?_,h4⟩;rcases List.mem_cons.1 hx with rfl | hx
   exact λe=>h3 e.symm;exact h1 x hx
def lA:∀(l:List (Nat×Bb)) (s:AS),(s.ZA l).nx=s.nx/\(s.ZA l).nr=s.nr/\(s.ZA l).F=s.F/\∀n,KO s.h n->KO (s.ZA l).h n
 | [],s=>⟨rfl,rfl,rfl,λ_ h=>h⟩
 | e::l,s=>by
   obtain⟨h1,h2,h3,h4⟩:=lA l (s.put e.1 e.2);exact⟨h1,h2,h3,λn h=>h4 n (XU h)⟩
def kM:∀(l:List (Nat×Nat)) (s:AS) (q n:Nat),Ec q (s.V5 l).F=some n->(∃e∈l,e.1=q/\e.2=n)\/((∀e∈l,e.1≠q)/\Ec q s.F=some n)
 | [],s,q,n,h=>.inr ⟨(λe he=>by cases he),h⟩
 | e::l,s,q,n,h=>by
   rcases kM l _ q n h with ⟨x,hx,h1⟩ | ⟨h1,h2⟩
   exact .inl ⟨x,List.mem_cons_of_mem _ hx,h1⟩;rcases lH h2 with ⟨h3,h4,_⟩ | ⟨h3,h4⟩
   exact .inl ⟨e,List.mem_cons_self,h3.symm,h4.symm⟩;refine .inr ⟨λx hx=>?_,h4⟩;rcases List.mem_cons.1 hx with rfl | hx
   exact λe=>h3 e.symm;exact h1 x hx
def hY:∀(l:List (Nat×Nat)) (s:AS),(s.V5 l).nx=s.nx/\(s.V5 l).nr=s.nr/\(s.V5 l).h=s.h
 | [],s=>⟨rfl,rfl,rfl⟩
 | e::l,s=>hY l _
def dW:∀{l:List (Nat×Bb)} {s:AS},hX s l=Vb l->∀{i:Nat} {e:Nat×Bb},l[i]?=some e->s.get e.1=some e.2
 | [],s,_,i,e,he=>by simp at he
 | x::l,s,h,i,e,he=>by
   simp only[hX,Vb,List.cons.injEq] at h;cases i with
   | zero=>simp at he;subst he;exact h.1
   | succ i=>exact dW h.2 (by simpa using he)
def tG:∀{l:List (Nat×Nat)} {F:List (Nat×Nat)},kX F l=V2 l->∀{i:Nat} {e:Nat×Nat},l[i]?=some e->Ec e.1 F=some e.2
 | [],s,_,i,e,he=>by simp at he
 | x::l,s,h,i,e,he=>by
   simp only[kX,V2,List.cons.injEq] at h;cases i with
   | zero=>simp at he;subst he;exact h.1
   | succ i=>exact tG h.2 (by simpa using he)
mutual
inductive Occ(id:Nat):AV->Prop where
 | ptr {off:Nat}:Occ id (.ptr id off)
 | mp:Occ id (.mp id)
 | G2 {off n:Nat}:Occ id (.G2 id off n)
 | agg {cs:List AV} (h:Xm id cs):Occ id (.agg cs)
 | fn1 {f:Fn} {a b:List AV} (h:Xm id a):Occ id (.fn f a b)
 | fn2 {f:Fn} {a b:List AV} (h:Xm id b):Occ id (.fn f a b)
inductive Xm(id:Nat):List AV->Prop where
 | here {a:AV} {l:List AV} (h:Occ id a):Xm id (a::l)
 | there {a:AV} {l:List AV} (h:Xm id l):Xm id (a::l)
end
mutual
def Occ.C6{c:Cx}{w:World}{id:Nat}:∀{a:AV} {v:Value},Occ id a->Rp c w a v->∃g,c.C6[id]?=some (some g):=by
 intro a v ho h;cases ho with
 | ptr=>cases h with | ptr h1=>exact⟨_,h1⟩
 | mp=>cases h with | mp h1=>exact⟨_,h1⟩
 | G2=>cases h with | G2 hn h1=>exact⟨_,h1⟩
 | agg h1=>cases h with | agg h2=>exact Xm.C6 h1 h2
 | fn1 h1=>cases h with | fn h2 h3=>exact Xm.C6 h1 h2
 | fn2 h1=>cases h with | fn h2 h3=>exact Xm.C6 h1 h3
def Xm.C6{c:Cx}{w:World}{id:Nat}:∀{a:List AV} {v:List Value},Xm id a->C8 c w a v->∃g,c.C6[id]?=some (some g):=by
 intro a v ho h;cases ho with
 | here h1=>cases h with | cons h2 _=>exact Occ.C6 h1 h2
 | there h1=>cases h with | cons _ h2=>exact Xm.C6 h1 h2
end
inductive Rch(args:List AV)(pre:List (Nat×Bb)):Nat->Prop where
 | arg {id:Nat} (h:Xm id args):Rch args pre id
 | box {i id p:Nat} {cs:List AV} (h:Rch args pre i) (hp:pre[p]?=some (i,.cells cs)) (ho:Xm id cs):Rch args pre id
def Rch.C6{G:Bh}{args:List AV}{pre:List (Nat×Bb)}{s:AS}(hb:hX s pre=Vb pre){cx:Cx}{w:World}{vs:List Value}(hs:St G cx w s)(ha:C8 cx w args vs){id:Nat}(h:Rch args pre id):∃g,cx.C6[id]?=some (some g):=by
 induction h with
 | arg h=>exact h.C6 ha
 | box h hp ho ih =>
   obtain⟨g,hg⟩:=ih;obtain⟨o,_,hbo⟩:=hs.box _ g _ hg (dW hb hp);cases hbo with
   | GZ ext hr=>exact ho.C6 hr
def MW{β:Type}(l:List (Nat×β))(i:Nat):Nat:=match l[i]? with
 | some e=>e.1
 | none=>0
def Nt{β:Type}{l:List (Nat×β)}{i:Nat}{e:Nat×β}(h:l[i]?=some e):MW l i=e.1:=by unfold MW;rw[h]
def keys{β:Type}(l:List (Nat×β)):List Nat:=l.map (·.1)
def lO{β:Type}{l:List (Nat×β)}(h:(keys l).Nodup){i i':Nat}(hi:i < l.length)(QZ:i' < l.length)(e:MW l i=MW l i'):i=i':=by
 have h1:(keys l)[i]?=some (MW l i):=by
   unfold keys;rw[List.getElem?_map,List.getElem?_eq_getElem hi,Nt (List.getElem?_eq_getElem hi)];rfl
 have h2:(keys l)[i']?=some (MW l i'):=by
   unfold keys;rw[List.getElem?_map,List.getElem?_eq_getElem QZ,Nt (List.getElem?_eq_getElem QZ)];rfl
 rw[<- e] at h2;exact abv h h1 h2
def Tf{β β':Type}{l:List (Nat×β)}{m:List (Nat×β')}(h:keys l=keys m)(i:Nat):MW l i=MW m i:=by
 have h1:=congrArg (λx=>x[i]?) h;unfold keys at h1;simp only[List.getElem?_map] at h1;unfold MW;cases hl:l[i]?<;>cases hm:m[i]?<;>rw[hl,hm] at h1<;>simp at h1<;>simp[h1]
def Io{P:Program}{G:Bh}(hG:∀g cs,G g=some cs->Bx cs=true){f:FuncId}{args eX:List AV}{r r':CR}{M M2:List Bb}{T T2:List Nat}(pre W4:List (Nat×Bb))(tp tu:List (Nat×Nat)){k j:Nat}
   (h:Sound P G (.call f args ⟨YN M 0 [],k,yB T 0,j⟩ r ⟨YN M2 0 [],k,yB T2 0,j⟩))
   (hk:M.length=k) (hj:T.length=j) (sG:T2.length=j)
   (hku:keys W4=keys pre) (hkt:keys tu=keys tp) (RV:(keys pre).Nodup) (TE:(keys tp).Nodup)
   (htp:tp.map (·.2)=T) (htu:tu.map (·.2)=T2)
   (hb:fW k j (MW pre) (MW tp) M pre) (AL:fW k j (MW pre) (MW tp) M2 W4)
   (G6:V4 k j (MW pre) (MW tp) args eX)
   (hr:RnR k j (MW pre) (MW tp) r r')
   (arT:∀e∈pre,Rch eX pre e.1):Cd.ok P G (.H4 f eX r' pre tp W4 tu):=by
 intro s hgb hgf;have hpl:pre.length=k:=by rw[<- hb.len,hk]
 have htl:tp.length=j:=by rw[<- hj,<- htp,List.length_map]
 have hul:W4.length=k:=by
   have:=congrArg List.length hku;simp only[keys,List.length_map] at this;omega
 have at2:tu.length=j:=by rw[<- sG,<- htu,List.length_map]
 refine alG hG h (by have:=yT (M:=M) (n:=0) (acc:=[]) trivial;rw[Nat.zero_add,hk] at this;exact this) (MW pre) (MW tp) (λi i' hi QZ e=>lO RV (by omega) (by omega) e) (λi i' hi QZ e=>lO TE (by omega) (by omega) e) G6 (s:=s) (λi b hi hl=>?_) (λcx w vs hs ha i hi=>?_) (λq n hq hl=>?_) (λq hq=>?_) (λq n hl=>?_) hr ?_;rcases v8 (acc:=[]) trivial hl with ⟨_,h1⟩ | h1
 rw[Nat.sub_zero] at h1;obtain⟨e,he,hn⟩:=hb.get h1;exact⟨e.2,by rw[Nt he];exact dW hgb he,hn⟩;cases h1;have he:pre[i]?=some pre[i]:=List.getElem?_eq_getElem (by omega);rw[Nt he];exact(arT _ (List.mem_of_getElem? he)).C6 hgb hs ha;obtain⟨_,h1⟩:=Zm hl;rw[Nat.sub_zero,<- htp,List.getElem?_map] at h1;cases he:tp[q]? with
 | none=>rw[he] at h1;cases h1
 | some e =>
   rw[he] at h1;simp at h1;rw[Nt he,<- h1];exact tG hgf he
 exact lR (Nat.zero_le _) (by omega);obtain⟨_,h1⟩:=Zm hl;have:=(List.getElem?_eq_some_iff.1 h1).1;omega;obtain⟨a1,a2,a3,a4⟩:=lA W4 s;obtain⟨b1,b2,b3⟩:=hY tu (s.ZA W4);refine⟨by rw[b1,a1],by rw[b2,a2],λn hd=>by rw[b3];exact a4 n hd,λid b hg=>?_,λq n hq=>?_⟩
 have hg:(s.ZA W4).get id=some b:=by
   unfold AS.get at hg ⊢;rw[b3] at hg;exact hg
 rcases sR W4 s id b hg with ⟨e,he,rfl,rfl⟩ | ⟨h1,h2⟩
 obtain⟨i,hi⟩:=List.mem_iff_getElem?.1 he;have hil:=(List.getElem?_eq_some_iff.1 hi).1;obtain⟨b0,hb0,hn⟩:=AL.ar8 hi;refine .inl ⟨i,b0,by omega,by rw[<- Tf hku,Nt hi],?_,hn⟩
 have:∀(M:List Bb) (n:Nat) (acc:List (Nat×Bb)) (i:Nat) (b:Bb),M[i]?=some b->(∀e∈acc,e.1 < n)->look (n+i) (YN M n acc)=some b:=by
   intro M
   induction M with
   | nil=>intro n acc i b h;simp at h
   | cons x M ih =>
     intro n acc i b h uF;cases i with
     | succ i =>
       have:=ih (n+1) ((n,x)::acc) i b (by simpa using h) (λe he=>by
         rcases List.mem_cons.1 he with rfl | he
         exact Nat.lt_succ_self _;have:=uF e he;omega)
       rw[show n+(i+1)=n+1+i by omega];exact this
     | zero =>
       simp at h;subst h;simp only[YN,Nat.add_zero]
       have aqe:∀(M:List Bb) (n':Nat) (acc:List (Nat×Bb)),n < n'->look n (YN M n' acc)=look n acc:=by
         intro M
         induction M with
         | nil=>intro n' acc _;rfl
         | cons y M ih2 =>
           intro n' acc IJ;simp only[YN];rw[ih2 (n'+1) _ (by omega)];simp only[look]
           have:Nat.beq n' n=false:=by
             cases hq:Nat.beq n' n with
             | false=>rfl
             | true=>have:=beq_true hq;omega
           rw[this]
       rw[aqe M (n+1) _ (by omega)];simp only[look];rw[show Nat.beq n n=true from Nat.beq_refl n]
 have:=this M2 0 [] i b0 hb0 (λe he=>by cases he);rwa[Nat.zero_add] at this;refine .inr ⟨λi hi e=>?_,h2⟩;have he:W4[i]?=some W4[i]:=List.getElem?_eq_getElem (by omega);refine h1 _ (List.mem_of_getElem? he) ?_;rw[e,<- Tf hku,Nt he];rcases kM tu _ q n hq with ⟨e,he,rfl,rfl⟩ | ⟨h1,h2⟩
 obtain⟨i,hi⟩:=List.mem_iff_getElem?.1 he;have hil:=(List.getElem?_eq_some_iff.1 hi).1;refine .inl ⟨i,by omega,by rw[<- Tf hkt,Nt hi],?_⟩;obtain⟨kk,hkk⟩:=lR (T:=T2) (n:=0) (r:=i) (Nat.zero_le _) (by omega);obtain⟨_,h3⟩:=Zm hkk;rw[Nat.sub_zero,<- htu,List.getElem?_map,hi] at h3;simp at h3;rw[hkk,h3];refine .inr ⟨λi hi e=>?_,by rw[<- a3];exact h2⟩;have he:tu[i]?=some tu[i]:=List.getElem?_eq_getElem (by omega);refine h1 _ (List.mem_of_getElem? he) ?_;rw[e,<- Tf hkt,Nt he]
end AI
namespace AI
open Go Go.RowKit
section
variable {P:Program} {G:Bh}
def QM(G:Bh)(s0:AS)(r0:CR)(s2:AS):CR->AS->Prop:=λr s'=>match r0 with
 | .ret v=>∃a,r=.ret a/\Frg G s0 [a] s' [v] s2
 | .Mq v=>∃a,r=.Mq a/\Frg G s0 [a] s' [v] s2
def akG(hm:P.follows .mixedOrders=true){f:FuncId}{args:List AV}{s0 s2:AS}{r0:CR}(h:WC P G (XS P G) H0 f args s0 (QM G s0 r0 s2)):Sound P G (.call f args s0 r0 s2):=by
 obtain⟨r,s',hj,hq⟩:=h;have hS:=sound (yI hm) hj;intro cx w vs hs G6;refine(hS cx w vs hs G6).mono ?_;rintro e w' ⟨c',hx,DC,adx⟩;cases r0 with
 | ret v =>
   obtain⟨a,rfl,hf⟩:=hq;obtain⟨u,rfl,hu⟩:=adx;obtain⟨c2,x2,YU,f2⟩:=hf cx w c' w' [u] hx hs DC (.cons hu .nil);cases f2 with
   | cons f3 _=>exact⟨c2,x2,YU,u,rfl,f3⟩
 | Mq v =>
   obtain⟨a,rfl,hf⟩:=hq;obtain⟨u,rfl,hu⟩:=adx;obtain⟨c2,x2,YU,f2⟩:=hf cx w c' w' [u] hx hs DC (.cons hu .nil);cases f2 with
   | cons f3 _=>exact⟨c2,x2,YU,u,rfl,f3⟩
def Jm(P:Program)(G:Bh)(fn:Func)(m:Nat)(s0:AS)(Q:AX->List AV->AS->Prop)(v:AV)(s2:AS):Prop:=∀a s',Frg G s0 [a] s' [v] s2->V1 P fn m Q a s'
def sO(G:Bh)(m:Nat)(s0:AS)(Q:AX->List AV->AS->Prop)(v:AV)(s2:AS):Prop:=∀a s',Frg G s0 [a] s' [v] s2->X2 m Q a s'
def Jm.body{fn:Func}{m:Nat}{s0 s2:AS}{v:AV}:Jm P G fn m s0 (PE P fn m (QM G s0 (.ret v) s2)) v s2:=λa s' hf=>.body ⟨a,rfl,hf⟩
def sO.body{fn:Func}{m:Nat}{s0 s2:AS}{v:AV}:sO G m s0 (PE P fn m (QM G s0 (.Mq v) s2)) v s2:=λa s' hf=>.body ⟨a,rfl,hf⟩
def Jm.outer{fn:Func}{m id:Nat}{ks:List KI}{s0 s2:AS}{Q:AX->List AV->AS->Prop}{v:AV}(h:Jm P G fn m s0 Q v s2):Jm P G fn m s0 (Cy id (Ce P G ks Q)) v s2:=λa s' hf=>(h a s' hf).outer
def Jm.Dv{fn:Func}{m:Nat}{L:Code}{s0 s1 s2:AS}{Q:AX->List AV->AS->Prop}{v:AV}(h:Jm P G fn m s0 Q v s2):Jm P G fn m s0 (Sb P G L s1 Q) v s2:=h
def sO.outer{m id:Nat}{ks:List KI}{s0 s2:AS}{Q:AX->List AV->AS->Prop}{v:AV}(h:sO G m s0 Q v s2):sO G m s0 (Cy id (Ce P G ks Q)) v s2:=λa s' hf=>(h a s' hf).outer
def sO.Dv{m:Nat}{L:Code}{s0 s1 s2:AS}{Q:AX->List AV->AS->Prop}{v:AV}(h:sO G m s0 Q v s2):sO G m s0 (Sb P G L s1 Q) v s2:=h
def AG{f:FuncId}{args:List AV}{v:AV}{pre:List (Nat×Bb)}{tp:List (Nat×Nat)}{W4:List (Nat×Bb)}{tu:List (Nat×Nat)}(h:Cd.ok P G (.H4 f args (.ret v) pre tp W4 tu)):PC P G :=
 ⟨.u v pre tp W4 tu,[.H4 f args (.ret v) pre tp W4 tu,.zF (Vb pre) (Vb pre) (V2 tp) (V2 tp)],⟨h,⟨rfl,rfl⟩,trivial⟩⟩
def agY{f:FuncId}{args sI:List AV}{v:AV}{pre:List (Nat×Bb)}{tp:List (Nat×Nat)}{W4:List (Nat×Bb)}{tu:List (Nat×Nat)}(w:Wn args sI)(h:Cd.ok P G (.H4 f sI (.ret v) pre tp W4 tu)):PC P G :=
 ⟨.u v pre tp W4 tu,[.H4 f args (.ret v) pre tp W4 tu,.zF (Vb pre) (Vb pre) (V2 tp) (V2 tp)],⟨λs h1 h2 cx wd vs hs ha=>h s h1 h2 cx wd vs hs (w.ok ha),⟨rfl,rfl⟩,trivial⟩⟩
def pnz(l:List NZ):PC P G:=⟨.n l,[],trivial⟩
def pz(c:Nat):PC P G:=⟨.z c,[],trivial⟩
def pza:PC P G:=⟨.za,[],trivial⟩
def sA{b:Bb}{t:TypeId}{off:Nat}{v:AV}(h:Cd.ok P G (.ldB b t off v)):PC P G:=⟨.lb b v,[.ldB b t off v,.zF [some b] [some b] [] []],⟨h,⟨rfl,rfl⟩,trivial⟩⟩
def psb{b:Bb}{t:TypeId}{off:Nat}{x:AV}{b2:Bb}(h:Cd.ok P G (.stB b t off x b2)):PC P G:=⟨.sb b b2,[.stB b t off x b2,.zF [some b] [some b] [] []],⟨h,⟨rfl,rfl⟩,trivial⟩⟩
def pmb{t:TypeId}{a x:AV}{n:Nat}{m:Bb}(h:Cd.ok P G (.mkB t a x n m)):PC P G:=⟨.mb n m,[.mkB t a x n m],⟨h,trivial⟩⟩
end
end AI
namespace AI
open Go Go.RowKit
mutual
def dF{n m n2 m2:Nat}(h1:n<=n2)(h2:m<=m2):∀{a:AV},under n m a=true->under n2 m2 a=true
 | .sc _,_=>rfl
 | .agg cs,h=>by simp only[under] at h ⊢;exact KP h1 h2 h
 | .Bj cs,h=>by simp only[under] at h ⊢;exact KP h1 h2 h
 | .sl o k cs,h=>by
   simp only[under,Bool.and_eq_true] at h ⊢;refine⟨?_,KP h1 h2 h.2⟩;have h3:=h.1;cases o with
   | row r z=>simp only[decide_eq_true_eq] at h3 ⊢;omega
   | _=>rfl
 | .G2 id _ _,h=>by simp only[under,decide_eq_true_eq] at h ⊢;omega
 | .el cs,h=>by simp only[under] at h ⊢;exact KP h1 h2 h
 | .ptr id _,h=>by simp only[under,decide_eq_true_eq] at h ⊢;omega
 | .fn _ a b,h=>by simp only[under,Bool.and_eq_true] at h ⊢;exact⟨KP h1 h2 h.1,KP h1 h2 h.2⟩
 | .TW _ v,h=>by simp only[under] at h ⊢;exact dF h1 h2 h
 | .mp id,h=>by simp only[under,decide_eq_true_eq] at h ⊢;omega
 | .any,_=>rfl
 | .raw _ _ _,_=>rfl
def KP{n m n2 m2:Nat}(h1:n<=n2)(h2:m<=m2):∀{a:List AV},DU n m a=true->DU n2 m2 a=true
 | [],_=>rfl
 | a::l,h=>by simp only[DU,Bool.and_eq_true] at h ⊢;exact⟨dF h1 h2 h.1,KP h1 h2 h.2⟩
end
def Wn.z{l m:List AV}(t:Wn l m):Wn (.sl .full 0 []::l) (.sl .lost 0 []::m):=.s rfl t
def rS{P:Program}{G:Bh}{r:HR}{X:Prop}{x:Value}{fn:Func}{m:Nat}{l:List (PC P G)}(R:gG P G l (PE P fn m (λr _=>∃a,r=.ret a/\Fits 0 0 a (.sc x))) r X)(h:abf P fn r=some (YX l,.sc x)):X:=Vk fn m R h .body .sc
abbrev JJ:=List Value×List AV
def alv:List Value->Nat->Value
 | [],_=>undef
 | v::_,0=>v
 | _::l,k+1=>alv l k
def arJ:List AV->Nat->AV
 | [],_=>.sc undef
 | v::_,0=>v
 | _::l,k+1=>arJ l k
def jn(j:JJ)(k:Nat):Value:=alv j.1 k
def gn(j:JJ)(k:Nat):AV:=arJ j.2 k
def frm:Nat->Nat->List (Nat×AV)->List Nat->Nat->List Nat->Nat->JJ->List AV
 | 0,_,_,_,_,_,_,_=>[]
 | n+1,p,l,bs,kb,gs,kg,j=>(match iX p l with
   | some v=>v::frm n (p+1) (l.drop 1) bs kb gs kg j
   | none=>(match dM p bs with
     | true=>.sc (jn j kb)::frm n (p+1) l (bs.drop 1) (kb+1) gs kg j
     | false=>(match dM p gs with
       | true=>gn j kg::frm n (p+1) l bs kb (gs.drop 1) (kg+1) j
       | false=>.any::frm n (p+1) l bs kb gs kg j)))
where
 iX (p:Nat):List (Nat×AV)->Option AV
   | []=>none
   | e::_=>(match Nat.beq e.1 p with | true=>some e.2 | false=>none)
 dM (p:Nat):List Nat->Bool
   | []=>false
   | e::_=>Nat.beq e p
structure Mm(κ ν:Type) where
 es:List (κ×ν×Nat)
 cl:Nat
section
variable {κ ν:Type} [DecidableEq κ]
def KE(k:κ):List (κ×ν×Nat)->Nat->Option (Nat×ν)
 | [],_=>none
 | e::es,i=>if e.1=k then some (i,e.2.1) else KE k es (i+1)
def Mm.get(m:Mm κ ν)(k:κ):Option ν:=(KE k m.es 0).map (·.2)
def Mm.set(m:Mm κ ν)(k:κ)(v:ν):Mm κ ν:=match KE k m.es 0 with
 | some (j,_)=>(match m.es[j]? with | some e=>⟨m.es.set j (k,v,e.2.2),m.cl⟩ | none=>m)
 | none=>⟨m.es++[(k,v,m.cl)],m.cl+1⟩
def Mm.nil:Mm κ ν:=⟨[],0⟩
def Mm.get_nil(k:κ):(Mm.nil:Mm κ ν).get k=none:=rfl
def abh(k k2:κ)(v:ν)(b:Nat):∀(es:List (κ×ν×Nat)) (i:Nat),KE k (es++[(k2,v,b)]) i=match KE k es i with
   | some r=>some r
   | none=>if k2=k then some (i+es.length,v) else none:=by
 intro es
 induction es with
 | nil=>intro i;simp[KE]
 | cons e es ih =>
   intro i;simp only[List.cons_append,KE];by_cases he:e.1=k;simp[he];rw[if_neg he,if_neg he,ih (i+1)];cases KE k es (i+1) with
   | some r=>rfl
   | none=>simp only[List.length_cons];rw[show i+1+es.length=i+(es.length+1) by omega]
def fI{k:κ}:∀{es:List (κ×ν×Nat)} {i j:Nat} {v:ν},KE k es i=some (j,v)->∃m e,j=i+m/\es[m]?=some e/\e.1=k/\e.2.1=v:=by
 intro es
 induction es with
 | nil=>intro i j v h;cases h
 | cons e es ih =>
   intro i j v h;simp only[KE] at h;split at h;rename_i he;cases h;exact⟨0,e,rfl,rfl,he,rfl⟩;obtain⟨m,e',h1,h2,h3⟩:=ih h;exact⟨m+1,e',by omega,by simpa using h2,h3⟩
def acz{k:κ}{v:ν}:∀{es:List (κ×ν×Nat)} {i m b:Nat} {v0:ν},KE k es i=some (i+m,v0)->∀k',KE k' (es.set m (k,v,b)) i=if k'=k then some (i+m,v) else KE k' es i:=by
 intro es
 induction es with
 | nil=>intro i m b v0 h;cases h
 | cons e es ih =>
   intro i m b v0 h k';simp only[KE] at h;split at h;rename_i he;have hm:m=0:=by have h5:=congrArg (λo:Option (Nat×ν)=>o.map (·.1)) h;simp at h5;omega
   subst hm;simp only[List.set_cons_zero,KE,he];by_cases hk:k'=k;simp[hk];have hk2:¬k=k':=λe=>hk e.symm;simp[hk,hk2];rename_i he;obtain⟨m',_,hm,_⟩:=fI h;cases m with
   | zero=>omega
   | succ m =>
     simp only[List.set_cons_succ,KE];have:=ih (i:=i+1) (m:=m) (b:=b) (by rw[show i+1+m=i+(m+1) by omega];exact h) k';by_cases hk:e.1=k';rw[if_pos hk,if_pos hk];have:¬k'=k:=λe'=>he (hk.trans e');simp[this];rw[if_neg hk,if_neg hk,this,show i+1+m=i+(m+1) by omega]
def Mm.Ew(m:Mm κ ν)(k:κ)(v:ν)(k':κ):(m.set k v).get k'=if k'=k then some v else m.get k':=by
 unfold Mm.get Mm.set;cases hf:KE k m.es 0 with
 | none =>
   simp only;rw[abh];by_cases hk:k'=k;subst hk;rw[hf];simp;cases hf':KE k' m.es 0 with
   | some r=>simp[hk]
   | none =>
     have hk2:¬k=k':=λe=>hk e.symm;simp[hk,hk2]
 | some r =>
   obtain⟨j,v0⟩:=r;obtain⟨q,e,h1,h2,h3,_⟩:=fI hf;have hj:j=q:=by omega
   subst hj;simp only[h2];rw[acz (i:=0) (m:=j) (v0:=v0) (by rw[Nat.zero_add];exact hf)];by_cases hk:k'=k<;>simp[hk]
end
def mEs{κ ν:Type}(kv:κ->Value)(vv:ν->AV)(l:List (κ×ν×Nat)):List (Value×AV×Nat):=l.map λe=>(kv e.1,vv e.2.1,e.2.2)
def mB{κ ν:Type}(kv:κ->Value)(vv:ν->AV)(m:Mm κ ν):Bb:=.map (mEs kv vv m.es) m.cl
structure lW{κ:Type}[DecidableEq κ](d:TypeDesc)(kv:κ->Value):Prop where
 pk:plainKey d=true
 same:∀a b:κ,Yg d (kv a) (kv b)=some (decide (b=a))
def eV{κ ν:Type}[DecidableEq κ]{d:TypeDesc}{kv:κ->Value}{vv:ν->AV}(hk:lW d kv)(k:κ):∀(l:List (κ×ν×Nat)) (i:Nat),Wd d (kv k) (mEs kv vv l) i=some ((KE k l i).map λr=>(r.1,vv r.2)):=by
 intro l
 induction l with
 | nil=>intro i;rfl
 | cons e l ih =>
   intro i;simp only[mEs,List.map_cons,Wd,hk.same,KE];by_cases he:e.1=k;simp[he];have:=ih (i+1);unfold mEs at this;simp[he,this]
def uM:lW (κ:=Int) (.int .i64) (λn=>.int .i64 n):=⟨rfl,λa b=>by
 simp only[Yg,if_true,Option.some.injEq];rw[Bool.eq_iff_iff,decide_eq_true_iff,beq_iff_eq];exact eq_comm⟩
def yD:lW (κ:=ByteArray) .string (λn=>.string n):=⟨rfl,λa b=>by
 simp only[Yg,Option.some.injEq];rw[Bool.eq_iff_iff,decide_eq_true_iff];simp only[beq_iff_eq];exact⟨λh=>(ByteArray.ext (Array.ext' h)).symm,λh=>by rw[h]⟩⟩
section
variable {P:Program} {G:Bh} {κ ν:Type} [DecidableEq κ] {t kt et:TypeId} {d:TypeDesc} {kv:κ->Value} {vv:ν->AV}
def lZ(ht:P.underlying t=some (.map kt et))(hd:P.underlying kt=some d)(hk:lW d kv){z:ν}(hz:JF P et=some (vv z))(m:Mm κ ν)(k:κ):Cd.ok P G (.uZ (mB kv vv m) t (.sc (kv k)) false (vv ((m.get k).getD z))):=by
 intro s id hg;unfold H3;have hsc:TG (.sc (kv k))=some (kv k):=rfl;simp only[ht,hd,hsc,hk.pk,if_true,hg,mB,eV hk,Mm.get];cases KE k m.es 0 with
 | none=>simp[hz]
 | some r=>simp
def xH(ht:P.underlying t=some (.map kt et))(hd:P.underlying kt=some d)(hk:lW d kv){z:ν}(hz:JF P et=some (vv z))(m:Mm κ ν)(k:κ){b:Bool}(hb:(m.get k).isSome=b):Cd.ok P G (.uZ (mB kv vv m) t (.sc (kv k)) true (.Bj [vv ((m.get k).getD z),.sc (.bool b)])):=by
 intro s id hg;subst hb;unfold H3;have hsc:TG (.sc (kv k))=some (kv k):=rfl;simp only[ht,hd,hsc,hk.pk,if_true,hg,mB,eV hk,Mm.get];cases KE k m.es 0 with
 | none=>simp[hz]
 | some r=>simp
def lI(ht:P.underlying t=some (.map kt et))(hd:P.underlying kt=some d)(hk:lW d kv)(m:Mm κ ν)(k:κ)(v:ν):Cd.ok P G (.msB (mB kv vv m) t (.sc (kv k)) (vv v) (mB kv vv (m.set k v))):=by
 intro s id hg;unfold K9;have hsc:TG (.sc (kv k))=some (kv k):=rfl;simp only[ht,hd,hsc,hk.pk,if_true,hg,mB,eV hk,Mm.set];cases hf:KE k m.es 0 with
 | none=>simp[mEs]
 | some r =>
   obtain⟨j,v0⟩:=r;obtain⟨q,e,h1,h2,h3,_⟩:=fI hf;have hj:j=q:=by omega
   subst hj;simp[h2,mEs,List.map_set]
def N8{b:Bb}{t:TypeId}{k:AV}{ok:Bool}{v:AV}(h:Cd.ok P G (.uZ b t k ok v)):PC P G:=⟨.x b v,[.uZ b t k ok v,.zF [some b] [some b] [] []],⟨h,⟨rfl,rfl⟩,trivial⟩⟩
def iU{b b2:Bb}{t:TypeId}{k v:AV}(h:Cd.ok P G (.msB b t k v b2)):PC P G:=⟨.y b b2,[.msB b t k v b2,.zF [some b] [some b] [] []],⟨h,⟨rfl,rfl⟩,trivial⟩⟩
end
section
variable {κ ν:Type} {kv:κ->Value} {vv:ν->AV}
def ae8{n m:Nat}{μ:Mm κ ν}(h:∀v,plain (vv v)=true):nS n m (mB kv vv μ)=true:=by
 unfold mB nS mEs;generalize μ.es=l
 induction l with
 | nil=>rfl
 | cons e l ih=>simp only[List.map_cons,YF,Ad _ _ (h _),ih,Bool.and_self]
def Mj{n m:Nat}{μ:Mm κ ν}(h:∀v,plain (vv v)=true):Rj n m (mB kv vv μ) (mB kv vv μ):=.under (ae8 h)
def FT{k j:Nat}{ρ σ:Nat->Nat}{μ:Mm κ ν}(h:∀v,plain (vv v)=true):RnB k j ρ σ (mB kv vv μ) (mB kv vv μ):=.map λe he=>by
 unfold mEs at he;obtain⟨a,_,rfl⟩:=List.mem_map.1 he;exact h _
end
end AI
namespace AI
open Go
section
variable {α γ δ ρ:Type}
def allI(p:Nat->α->Bool):List α->Nat->Bool
 | [],_=>true
 | y::l,i=>p i y&&allI p l (i+1)
def rG{body:Nat->α->Unit->Option (Lp Unit δ ρ)}{done:Unit->δ}{p:Nat->α->Bool}{v:ρ}:∀{l:List α} {i:Nat},(∀k y,l[k]?=some y->body (i+k) y ()=some (if p (i+k) y then .nx () else .rt v))->Au body done l i ()=some (if allI p l i then .inl (done ()) else .inr v)
 | [],i,_=>rfl
 | y::l,i,h=>by
   have h0:=h 0 y rfl;rw[Nat.add_zero] at h0;rw[Au,h0,allI];cases p i y with
   | false=>simp[LW]
   | true =>
     have:=rG (body:=body) (done:=done) (p:=p) (v:=v) (l:=l) (i:=i+1) λk z hz=>by
       have:=h (k+1) z (by simpa using hz)
       rwa[show i+(k+1)=i+1+k by omega] at this
     simpa[LW] using this
def EV{β:Type}{n:Nat}{x:Option β}(h:n<=9223372036854775807):ED n x=x:=by unfold ED;rw[if_pos h]
def D9{β:Type}{n:Nat}{x:Option β}(h:n<=100000000):JB n x=x:=by unfold JB;rw[if_pos h]
end
end AI
namespace AI
open Go
def mb(p:Prop):Bool:=@decide p (Classical.propDecidable _)
def BE{p:Prop}:mb p=true↔p:=by unfold mb;exact @decide_eq_true_iff p (_)
def CA{p q:Prop}(h:p↔q):mb p=mb q:=by rw[propext h]
def AM{β:Type}(p:Prop)(x y:β):β:=@ite β p (Classical.propDecidable _) x y
def Ac{β:Type}{p:Prop}{x y:β}(h:p):AM p x y=x:=@if_pos p (_) h _ _ _
def Ab{β:Type}{p:Prop}{x y:β}(h:¬p):AM p x y=y:=@if_neg p (_) h _ _ _
section
variable {β:Type} {x y:β}
def oJ(a b:Int):cond (Iy a b) x y=AM (a<=b) x y:=by
 rw[wK];by_cases h:a<=b;rw[Ac h,decide_eq_true h];rfl;rw[Ab h,decide_eq_false h];rfl
def Wh(a b:Int):cond (C3 a b) x y=AM (a < b) x y:=by
 rw[TI];by_cases h:a < b;rw[Ac h,decide_eq_true h];rfl;rw[Ab h,decide_eq_false h];rfl
def HM(a b:Int):cond (Ba a b) x y=AM (a=b) x y:=by
 by_cases h:a=b;have:Ba a b=true:=by rw[RU];simpa using h
 rw[Ac h,this];rfl;have:Ba a b=false:=by rw[RU];simpa using h
 rw[Ab h,this];rfl
def N9(a b:ByteArray):cond (By a.data.toList b.data.toList) x y=AM (a=b) x y:=by
 by_cases h:a=b;have:By a.data.toList b.data.toList=true:=by rw[c8,h];simp
 rw[Ac h,this];rfl
 have:By a.data.toList b.data.toList=false:=by
   rw[c8];apply beq_false_of_ne;exact λe=>h (ByteArray.ext (Array.ext' e))
 rw[Ab h,this];rfl
def Bd(p:Prop):cond (mb p) x y=AM p x y:=by
 by_cases h:p;rw[Ac h,BE.2 h];rfl;rw[Ab h]
 have:mb p=false:=by
   cases hm:mb p;rfl;exact absurd (BE.1 hm) h
 rw[this];rfl
def vZ(b:Bool):cond b x y=AM (b=true) x y:=by cases b<;>simp[AM]
end
section
variable {p q r:Prop}
def EW:AM p (some true) (some false)=some (mb p):=by
 by_cases h:p;rw[Ac h,BE.2 h];rw[Ab h];congr 1;cases hm:mb p;rfl;exact absurd (BE.1 hm) h
def mbT:true=mb True:=(BE.2 trivial).symm
def mbF:false=mb False:=by cases h:mb False;rfl;exact(BE.1 h).elim
def jO:AM p (some false) (some true)=some (mb ¬p):=by
 by_cases h:p;rw[Ac h];congr 1;rw[Bool.eq_iff_iff,BE];simp[h];rw[Ab h];congr 1;rw[Bool.eq_iff_iff,BE];simp[h]
def Ek:AM p (some (mb q)) (some false)=some (mb (p/\q)):=by
 by_cases h:p;rw[Ac h];congr 1;rw[Bool.eq_iff_iff,BE,BE];simp[h];rw[Ab h];congr 1;rw[Bool.eq_iff_iff,BE];simp[h]
def XT:AM p (some false) (some (mb q))=some (mb (¬p/\q)):=by
 by_cases h:p;rw[Ac h];congr 1;rw[Bool.eq_iff_iff,BE];simp[h];rw[Ab h];congr 1;rw[Bool.eq_iff_iff,BE,BE];simp[h]
def oA:AM p (some (mb q)) (some true)=some (mb (p->q)):=by
 by_cases h:p;rw[Ac h];congr 1;rw[Bool.eq_iff_iff,BE,BE];simp[h];rw[Ab h];congr 1;rw[Bool.eq_iff_iff,BE];simp[h]
def WU:AM p (some true) (some (mb q))=some (mb (p\/q)):=by
 by_cases h:p;rw[Ac h];congr 1;rw[Bool.eq_iff_iff,BE];simp[h];rw[Ab h];congr 1;rw[Bool.eq_iff_iff,BE,BE];simp[h]
def VH:AM p (some (mb q)) (some (mb r))=some (mb ((p->q)/\(¬p->r))):=by
 by_cases h:p;rw[Ac h];congr 1;rw[Bool.eq_iff_iff,BE,BE];simp[h];rw[Ab h];congr 1;rw[Bool.eq_iff_iff,BE,BE];simp[h]
def Ov{β:Type}{x:β}:AM p x x=x:=by
 by_cases h:p;exact Ac h;exact Ab h
def ck{δ ρ:Type}(v:ρ)(p:Prop):Lp Unit δ ρ:=AM p (.nx ()) (.rt v)
variable {δ ρ:Type} {v:ρ}
def NC:AM p (some (.nx ())) (some (.rt v))=some (ck (δ:=δ) v p):=by
 unfold ck;by_cases h:p;rw[Ac h,Ac h];rw[Ab h,Ab h]
def VD:AM p (some (.rt v)) (some (.nx ()))=some (ck (δ:=δ) v ¬p):=by
 unfold ck;by_cases h:p;rw[Ac h,Ab (by simp[h])];rw[Ab h,Ac h]
def YL:AM p (some (ck (δ:=δ) v q)) (some (.rt v))=some (ck v (p/\q)):=by
 unfold ck;by_cases h:p;rw[Ac h];simp[h];rw[Ab h,Ab (by simp[h])]
def Xe:AM p (some (.rt v)) (some (ck (δ:=δ) v q))=some (ck v (¬p/\q)):=by
 unfold ck;by_cases h:p;rw[Ac h,Ab (by simp[h])];rw[Ab h];simp[h]
def afw:AM p (some (ck (δ:=δ) v q)) (some (.nx ()))=some (ck v (p->q)):=by
 unfold ck;by_cases h:p;rw[Ac h];simp[h];rw[Ab h,Ac (by simp[h])]
def ahz:AM p (some (.nx ())) (some (ck (δ:=δ) v q))=some (ck v (p\/q)):=by
 unfold ck;by_cases h:p;rw[Ac h,Ac (by simp[h])];rw[Ab h];simp[h]
def amV:AM p (some (ck (δ:=δ) v q)) (some (ck v r))=some (ck v ((p->q)/\(¬p->r))):=by
 unfold ck;by_cases h:p;rw[Ac h];simp[h];rw[Ab h];simp[h]
def Dy{α β:Type}{l:List α}{body:Nat->α->Unit->Option (Lp Unit Unit ρ)}{P:Nat->α->Prop}{k:Unit->Option β}{kr:ρ->Option β}(hl:l.length<=9223372036854775807)(hb:∀i y,l[i]?=some y->body i y ()=some (ck v (P i y))):(ED l.length (Au body (λ_=>()) (l.drop 0) 0 ())).bind (Eu k kr)=AM (∀i y,l[i]?=some y->P i y) (k ()) (kr v):=by
 rw[EV hl,List.drop_zero]
 have h1:∀k y,l[k]?=some y->body (0+k) y ()=some (if mb (P (0+k) y) then .nx () else .rt v):=λk y hy=>by
   rw[Nat.zero_add,hb k y hy];unfold ck;by_cases h:P k y;rw[Ac h,if_pos (BE.2 h)];rw[Ab h,if_neg (λe=>h (BE.1 e))]
 rw[rG (p:=λi y=>mb (P i y)) (v:=v) h1]
 have h2:∀(l:List α) (i:Nat),allI (λi y=>mb (P i y)) l i=true↔∀k y,l[k]?=some y->P (i+k) y:=by
   intro l
   induction l with
   | nil=>intro i;simp[allI]
   | cons a l ih =>
     intro i;rw[allI,Bool.and_eq_true,BE,ih];constructor;rintro⟨h1,h2⟩ k y hk;cases k with
     | zero=>simp at hk;subst hk;exact h1
     | succ k=>rw[show i+(k+1)=i+1+k by omega];exact h2 k y (by simpa using hk)
     intro h;refine⟨h 0 a rfl,λk y hk=>?_⟩;rw[show i+1+k=i+(k+1) by omega];exact h (k+1) y (by simpa using hk)
 have h3:=h2 l 0;simp only[Nat.zero_add] at h3;by_cases h:∀i y,l[i]?=some y->P i y;rw[Ac h,h3.2 h];rfl;rw[Ab h]
 have:allI (λi y=>mb (P i y)) l 0=false:=by
   cases ha:allI (λi y=>mb (P i y)) l 0;rfl;exact absurd (h3.1 ha) h
 rw[this];rfl
end
end AI
namespace AI
open Go
def Sp{β:Type}(o:Option β)(Q:β->Prop):Prop:=∃r,o=some r/\Q r
section
variable {α β γ δ ρ κ:Type} {Q:β->Prop}
def AB{r:β}:Sp (some r) Q=Q r:=propext ⟨λ⟨_,h,k⟩=>by cases h;exact k,λh=>⟨_,rfl,h⟩⟩
def Mh{o:Option κ}{k:κ->Option β}:Sp (o.bind k) Q=Sp o (λy=>Sp (k y) Q):=propext ⟨λ⟨r,h,hq⟩=>by
 obtain⟨y,h1,h2⟩:=pN h;exact⟨y,h1,r,h2,hq⟩,λ⟨y,h1,r,h2,hq⟩=>⟨r,by rw[h1];exact h2,hq⟩⟩
def Sp.mono{Q':β->Prop}{o:Option β}(h:Sp o Q)(k:∀r,Q r->Q' r):Sp o Q':=h.elim λr h=>⟨r,h.1,k r h.2⟩
def MA{o:Option β}{r:β}:(o=some r)=Sp o (λx=>x=r):=propext ⟨λh=>⟨r,h,rfl⟩,λ⟨_,h,k⟩=>by rw[h,k]⟩
def DH{p:Prop}{x y:Option β}:Sp (AM p x y) Q=((p->Sp x Q)/\(¬p->Sp y Q)):=propext (by
 by_cases h:p;rw[Ac h];exact⟨λa=>⟨λ_=>a,λn=>absurd h n⟩,λa=>a.1 h⟩;rw[Ab h];exact⟨λa=>⟨λn=>absurd n h,λ_=>a⟩,λa=>a.2 h⟩)
def Ea(a b:Int):Iy a b=mb (a<=b):=by rw[wK,Bool.eq_iff_iff,BE,decide_eq_true_iff]
def CC(a b:Int):C3 a b=mb (a < b):=by rw[TI,Bool.eq_iff_iff,BE,decide_eq_true_iff]
def BB(a b:Int):Ba a b=mb (a=b):=by rw[RU,Bool.eq_iff_iff,BE,beq_iff_eq]
def B5(a b:ByteArray):By a.data.toList b.data.toList=mb (a=b):=by
 rw[c8,Bool.eq_iff_iff,BE,beq_iff_eq];exact⟨λh=>ByteArray.ext (Array.ext' h),λh=>by rw[h]⟩
def af2{p:Prop}:(!mb p)=mb ¬p:=by
 rw[Bool.eq_iff_iff,BE,Bool.not_eq_true',<- Bool.not_eq_true,BE]
def EC{p:Prop}:(mb p=true)=p:=propext BE
def Vc{p:Prop}:(mb p=false)=¬p:=by rw[<- Bool.not_eq_true,EC]
def Qv{p:Prop}:(true=mb p)=p:=by rw[@eq_comm _ true,EC]
def CS{p:Prop}:(false=mb p)=¬p:=by rw[@eq_comm _ false,Vc]
def SK{p q:Prop}:(mb p=mb q)=(p↔q):=propext (by rw[Bool.eq_iff_iff,BE,BE])
def Kp{p q:Prop}(h:p↔q):some (mb p)=some (mb q):=by rw[CA h]
def FE{p:Prop}(h:¬p):some false=some (mb p):=congrArg some (by rw[CS];exact h)
def aqR{p:Prop}(h:p):some true=some (mb p):=congrArg some (by rw[Qv];exact h)
def CW{l:List α}{body:Nat->α->γ->Option (Lp γ δ ρ)}{done:γ->δ}{k:δ->Option β}{kr:ρ->Option β}{x0:γ}(I:Nat->γ->Prop)(hl:l.length<=9223372036854775807)(h0:I 0 x0)
   (hb:∀i y x,l[i]?=some y->I i x->Sp (body i y x) (RQ (I (i+1)) (λd=>Sp (k d) Q) (λv=>Sp (kr v) Q)))
   (hz:∀x,I l.length x->Sp (k (done x)) Q):Sp ((ED l.length (Au body done (l.drop 0) 0 x0)).bind (Eu k kr)) Q:=by
 rw[EV hl,List.drop_zero]
 have key:∀(m:List α) (i:Nat) (x:γ),l.drop i=m->i<=l.length->I i x->Sp ((Au body done m i x).bind (Eu k kr)) Q:=by
   intro m
   induction m with
   | nil =>
     intro i x hd hle hi;have h1:=List.drop_eq_nil_iff.1 hd;have:i=l.length:=by omega
     subst this;exact hz x hi
   | cons y m ih =>
     intro i x hd hle hi
     have IJ:i < l.length:=by
       rcases Nat.lt_or_ge i l.length with h1 | h1
       exact h1;rw[List.drop_eq_nil_of_le h1] at hd;cases hd
     have hy:l[i]?=some y:=by rw[<- List.head?_drop,hd];rfl
     have dM:l.drop (i+1)=m:=by rw[<- List.tail_drop,hd];rfl
     obtain⟨r,hr,hq⟩:=hb i y x hy hi;rw[Au,hr];cases r with
     | nx x'=>exact ih (i+1) x' dM IJ hq
     | ex d=>exact hq
     | rt v=>exact hq
 exact key l 0 x0 rfl (Nat.zero_le _) h0
def C9{Qn:γ->Prop}{Qx:δ->Prop}{Qr:ρ->Prop}{x:γ}:RQ Qn Qx Qr (.nx x)=Qn x:=rfl
def XY{Qn:γ->Prop}{Qx:δ->Prop}{Qr:ρ->Prop}{x:δ}:RQ Qn Qx Qr (.ex x)=Qx x:=rfl
def Z3{Qn:γ->Prop}{Qx:δ->Prop}{Qr:ρ->Prop}{x:ρ}:RQ Qn Qx Qr (.rt x)=Qr x:=rfl
def vK{body:γ->Option (Lp γ δ ρ)}{k:δ->Option β}{kr:ρ->Option β}{x0:γ}(I:γ->Prop)(m:γ->Nat)(h0:I x0)
   (hb:∀x,I x->Sp (body x) (RQ (λx'=>I x'/\m x' < m x) (λd=>Sp (k d) Q) (λv=>Sp (kr v) Q))):Sp ((pK body x0).bind (Eu k kr)) Q:=by
 have key:∀(n:Nat) (x:γ),I x->m x < n->∃r,Ut body n x=some r/\Sp (Eu k kr r) Q:=by
   intro n
   induction n with
   | zero=>intro x _ h;omega
   | succ n ih =>
     intro x hi hm;obtain⟨r,hr,hq⟩:=hb x hi;rw[Ut,hr];cases r with
     | nx x'=>exact ih x' hq.1 (by have:=hq.2;omega)
     | ex d=>exact⟨_,rfl,hq⟩
     | rt v=>exact⟨_,rfl,hq⟩
 obtain⟨r,hr,hq⟩:=key (m x0+1) x0 h0 (by omega);rw[agC hr];exact hq
def aly{n:Nat}{body:Nat->γ->Option (Lp γ δ ρ)}{done:γ->δ}{k:δ->Option β}{kr:ρ->Option β}{x0:γ}(I:Nat->γ->Prop)(hl:n<=9223372036854775807)(h0:I 0 x0)
   (hb:∀i x,i < n->I i x->Sp (body i x) (RQ (I (i+1)) (λd=>Sp (k d) Q) (λv=>Sp (kr v) Q)))
   (hz:∀x,I n x->Sp (k (done x)) Q):Sp ((ED n (oH body done n 0 x0)).bind (Eu k kr)) Q:=by
 rw[EV hl]
 have key:∀(d i:Nat) (x:γ),i+d=n->I i x->Sp ((oH body done d i x).bind (Eu k kr)) Q:=by
   intro d
   induction d with
   | zero =>
     intro i x hd hi;have:i=n:=by omega
     subst this;exact hz x hi
   | succ d ih =>
     intro i x hd hi;obtain⟨r,hr,hq⟩:=hb i x (by omega) hi;rw[oH,hr];cases r with
     | nx x'=>exact ih (i+1) x' (by omega) hq
     | ex d=>exact hq
     | rt v=>exact hq
 exact key n 0 x0 (by omega) h0
end
def eO{α γ δ ρ:Type}{l:List α}{body body':Nat->α->γ->Option (Lp γ δ ρ)}{done:γ->δ}{x0:γ}(h:∀i y x,l[i]?=some y->body i y x=body' i y x):Au body done (l.drop 0) 0 x0=Au body' done (l.drop 0) 0 x0:=by
 have key:∀(m:List α) (i:Nat) (x:γ),l.drop i=m->Au body done m i x=Au body' done m i x:=by
   intro m
   induction m with
   | nil=>intro i x _;rfl
   | cons y m ih =>
     intro i x hd;have hy:l[i]?=some y:=by rw[<- List.head?_drop,hd];rfl
     have dM:l.drop (i+1)=m:=by rw[<- List.tail_drop,hd];rfl
     rw[Au,Au,h i y x hy];congr 1;funext r;cases r with
     | nx x'=>exact ih (i+1) x' dM
     | ex d=>rfl
     | rt v=>rfl
 rw[List.drop_zero];exact key l 0 x0 rfl
def XN{n:Int}(h:-9223372036854775808<=n/\n<=9223372036854775807):UG .i64 n=n:=by
 rw[XX];exact IntWalk.i64_in n (by omega)
def Dl{a b:Int}(h:-9223372036854775808<=a+b/\a+b<=9223372036854775807):CE a b=a+b:=by
 unfold CE;rw[oB,XN h]
def Oz{a b:Int}(h:-9223372036854775808<=a - b/\a - b<=9223372036854775807):XG a b=a - b:=by
 unfold XG;rw[aam,XN h]
def aaw{a b:Int}(h:-9223372036854775808<=a*b/\a*b<=9223372036854775807):jX a b=a*b:=by
 unfold jX;rw[XN h]
end AI
namespace AI
open Go Go.RowKit
def K5(n:Nat)(z:Int):Option Nat:=if 0<=z/\z < ((n:Nat):Int) then some z.toNat else none
def rF{β:Type}(n:Nat)(x:Option β):Option β:=if n<=16777216 then x else none
def ae1{β:Type}{n:Nat}{x:Option β}{r:β}{X:Prop}(h1:n<=16777216->x=some r->X):rF n x=some r->X:=λh=>by
 unfold rF at h;split at h;rename_i h2;exact h1 h2 h;cases h
section
variable {P:Program} {G:Bh} {α:Type} {f:α->List AV} {C:List α->List AV} {k:Nat}
def MG.ixm(_:MG f C k){t elem:TypeId}(hu:P.underlying t=some (.slice elem))(hs:(P.info? elem).map (·.size)=some k){id n i:Nat}(h:i < n):BW P t (.G2 id 0 n) (.sc (.int .i64 ((i:Nat):Int)))=some (.ptr id (0+i*k)):=by
 cases hi:P.info? elem with
 | none=>rw[hi] at hs;cases hs
 | some e =>
   rw[hi] at hs;have hk:e.size=k:=by simpa using hs
   have hn:Su (.sc (.int .i64 ((i:Nat):Int)))=some i:=by unfold Su;simp
   unfold BW;rw[hu,hn];simp only[hi];rw[if_pos h,hk]
def MG.aip(hl:MG f C k){t elem:TypeId}(hu:P.underlying t=some (.slice elem))(hs:(P.info? elem).map (·.size)=some k){id n i:Nat}{z:Int}(h:K5 n z=some i):BW P t (.G2 id 0 n) (.sc (.int .i64 z))=some (.ptr id (0+i*k)):=by
 unfold K5 at h;split at h;rename_i hz;cases h;have:=hl.ixm (id:=id) hu hs (show z.toNat < n by omega);rwa[Int.toNat_of_nonneg hz.1] at this;cases h
def MG.ld1(h:MG f C 1){e:TypeId}(hd:(P.underlying e).map Wk=some false)(hs:(P.info? e).map (·.size)=some 1){l:List α}{i:Nat}{x:α}{v:AV}(hx:l[i]?=some x)(hv:f x=[v]):Cd.ok P G (.ldB (.cells (C l)) e (0+i*1) v):=by
 intro s id hg;simp only[Lk,hg];unfold apart;obtain⟨d,hu,hd⟩:=Option.map_eq_some_iff.1 hd;rw[hu];cases hi:P.info? e with
 | none=>rw[hi] at hs;cases hs
 | some j =>
   simp only;rw[hd,if_neg (by simp),h.eq,Nat.zero_add,<- List.head?_drop,kH h.len hx,hv];rfl
def ab8{l:List α}{i:Nat}(y:α)(h:i < l.length):l.set i y=l.take i++y::l.drop (i+1):=by
 rw[List.set_eq_take_append_cons_drop,if_pos h]
def MG.st(h:MG f C k){e:TypeId}(hs:(P.info? e).map (·.size)=some k){l:List α}{i:Nat}{x:α}(hx:l[i]?=some x)(y:α){v:AV}(hv:cellsOf v=f y)(h1:(f y).all one=true):Cd.ok P G (.stB (.cells (C l)) e (0+i*k) v (.cells (C (l.set i y)))):=by
 intro s id hg;have IJ:=(List.getElem?_eq_some_iff.1 hx).1;have hle:i*k+k<=l.length*k:=by have:=Nat.mul_le_mul_right k IJ;rw[Nat.succ_mul] at this;exact this
 cases hi:P.info? e with
 | none=>rw[hi] at hs;cases hs
 | some j =>
   rw[hi] at hs;have hk:j.size=k:=by simpa using hs
   unfold MX;rw[hi];simp only[hg];rw[hv,hk,h.eq,Nat.zero_add,if_pos ⟨h.len y,h1,by rw[Nw h.len];exact hle⟩,h.eq];congr 3;unfold Jl;rw[h.len y,Ul h.len,show i*k+k=(i+1)*k by rw[Nat.succ_mul],UA h.len,ab8 y IJ,O4,HV,List.append_assoc]
def kF{β:Type}(zs:List β)(d:β)(hz:zs≠[]):∀n:Nat,((List.range (n*zs.length)).map λi=>zs.getD (i % zs.length) d)=(List.replicate n zs).flatten:=by
 have hp:0 < zs.length:=List.length_pos_iff.2 hz;intro n
 induction n with
 | zero=>simp
 | succ n ih =>
   rw[List.replicate_succ',List.flatten_append,<- ih,Nat.succ_mul,List.range_add,List.map_append];congr 1;simp only[List.flatten_cons,List.flatten_nil,List.append_nil];apply List.ext_getElem;simp;intro i h1 h2;simp only[List.getElem_map,List.getElem_range]
   have:(n*zs.length+i) % zs.length=i:=by
     rw[Nat.add_comm,Nat.add_mul_mod_self_right,Nat.mod_eq_of_lt h2]
   rw[this,List.getD_eq_getElem?_getD,List.getElem?_eq_getElem h2];rfl
def MG.made(h:MG f C k){t elem:TypeId}(hu:P.underlying t=some (.slice elem)){z:α}(hi:(P.info? elem).map (λi=>(i.size,decide (i.bytes<=16777216),i.zero.bind λz=>uG z.cells.toList))=some (k,true,some (f z)))(hk:k≠0){n:Nat}(hn:n<=16777216):Cd.ok P G (.mkB t (.sc (.int .i64 ((n:Nat):Int))) (.sc (.int .i64 ((n:Nat):Int))) n (.cells (C (List.replicate n z)))):=by
 intro s;cases hq:P.info? elem with
 | none=>rw[hq] at hi;cases hi
 | some e =>
   rw[hq] at hi;simp only[Option.map_some,Option.some.injEq,Prod.mk.injEq,decide_eq_true_eq] at hi;obtain⟨h1,h2,h3⟩:=hi;obtain⟨z0,m5,u4⟩:=Option.bind_eq_some_iff.1 h3;unfold uG at u4;obtain⟨zs,hzs,hzu⟩:=Option.map_eq_some_iff.1 u4;have ha:Su (.sc (.int .i64 ((n:Nat):Int)))=some n:=by unfold Su;simp
   have hlen:zs.length=k:=by rw[<- h.len z,<- hzu,List.length_map]
   have KS:zs≠[]:=λe=>hk (by rw[<- hlen,e];rfl);refine⟨.cells ((List.replicate n zs).flatten),?_,λcx w o ho=>?_⟩;unfold Iq;rw[hu];simp only[hq,ha,m5,hzs]
   rw[if_pos ⟨trivial,hn,Nat.le_trans (Nat.mul_le_mul hn h2) (by decide),by cases hf:zs with
     | nil=>exact absurd hf KS
     | cons a l=>rfl⟩]
   congr 4;rw[h1,<- hlen,kF _ _ KS]
   have e:C (List.replicate n z)=((List.replicate n zs).flatten).map nX:=by
     rw[h.eq];unfold rows;rw[List.flatMap_def,List.map_replicate,<- hzu,List.map_flatten,List.map_replicate]
   rw[e];cases ho with
   | GZ ext h1=>exact .GZ ext (iF h1)
end
end AI
namespace AI
open Go Go.RowKit
section
variable {P:Program} {G:Bh}
def XC{f:FuncId}{fn:Func}{c:Code}{args:List AV}{s s0 s2:AS}{m:Nat}{v:AV}(hf:P.funcs[f]?=some fn)(hb:fn.body=some c)(h:W P G (XS P G) H0 c (args++List.replicate (fn.ntmps - args.length) (.sc undef)) s (PE P fn m (QM G s0 (.ret v) s2))):WC P G (XS P G) H0 f args s (λr s'=>QM G s0 (.ret v) s2 r (s'.cut m)):=by
 obtain⟨e,TR,s1,h1,h2⟩:=h;cases e with
 | normal=>obtain⟨v,h3,h4⟩:=h2;exact⟨_,_,.body hf hb h1 (.inl rfl) h3 (.inr rfl),h4⟩
 | ret=>obtain⟨v,h3,h4⟩:=h2;exact⟨_,_,.body hf hb h1 (.inr rfl) h3 (.inr rfl),h4⟩
 | Mq v=>obtain⟨a,ha,_⟩:=h2;cases ha
 | exit id=>exact h2.elim
def n4(hm:P.follows .mixedOrders=true){f:FuncId}{args:List AV}{s0 s2:AS}{v:AV}{m:Nat}(h:WC P G (XS P G) H0 f args s0 (λr s'=>QM G s0 (.ret v) s2 r (s'.cut m))):Sound P G (.call f args s0 (.ret v) s2):=by
 obtain⟨r,s',hj,a,rfl,hf⟩:=h;have hS:=sound (yI hm) hj;intro cx w vs hs G6;refine(hS cx w vs hs G6).mono ?_;rintro e w' ⟨c',hx,DC,u,rfl,hu⟩;obtain⟨c2,x2,YU,f2⟩:=hf cx w c' w' [u] hx hs (DC.cut m) (.cons hu .nil);cases f2 with
 | cons f3 _=>exact⟨c2,x2,YU,u,rfl,f3⟩
def agq(hG:∀g cs,G g=some cs->Bx cs=true){s s' s2:AS}{Cm I0:List AV}(hn:s.nx<=s2.nx)(hr:s.nr<=s2.nr)(hn2:s2.nx<=s'.nx)(uW:s2.nr<=s'.nr)
   (hd:KO s2.h s2.nx) (akL:∀id b,look id s2.h=some b->∃b',look id s'.h=some b'/\Rj s2.nx s2.nr b' b) (hF:∀r n,Ec r s2.F=some n->Ec r s'.F=some n/\r < s2.nr)
   (hf:Kc s2.nx s2.nr Cm I0):Frg G s Cm s' I0 s2:=by
 intro cx w c' w' vs hx hs DC YR;have vM:=hs.len;have jJ:=DC.len;have hl3:=hs.Kr;have hl4:=DC.Kr
 have aT:cx.C6 <+: c'.C6.take s2.nx:=by
   obtain⟨t,ht⟩:=hx.C6;rw[<- ht,List.take_append,List.take_of_length_le (by omega)];exact List.prefix_append _ _
 have hrl:(c'.rows.take s2.nr).length=s2.nr:=by rw[List.length_take];omega
 refine⟨c'.upto s2.nx s2.nr,⟨aT,?_,λr x kV h=>hx.rows r x kV (E8 h).1,λg i v hv=>X8 (hx.qP g i v hv),hx.below,hx.base,hx.bad,λg hg=>hx.yH g (List.mem_of_mem_take hg),λr g n cap sz h=>hx.tF r g n cap sz (E8 h).1,hx.fM⟩,?_,hf _ _ _ YR⟩;show cx.rows.length<=(c'.rows.take s2.nr).length;omega;refine⟨?_,hd,λi j g h1 h2=>DC.nodup i j g (E8 h1).1 (E8 h2).1,λg hg=>DC.low g (List.mem_of_mem_take hg),λid g b h1 h2=>?_,hrl.symm,λr g n cap sz h=>?_,λr n h=>?_,λg hg=>DC.T8 g (List.mem_of_mem_take hg),DC.SR,λr r' g n cap sz n' DQ Qc h h'=>DC.KK r r' g n cap sz n' DQ Qc (E8 h).1 (E8 h').1,λg cs hg=>(DC.RN g cs hg).upto (Af _ _ (hG g cs hg)),DC.Xh⟩;show s2.nx=(c'.C6.take s2.nx).length;rw[List.length_take];omega;obtain⟨b',h3,h4⟩:=akL id b h2;obtain⟨o,ho,hb⟩:=DC.box id g b' (E8 h1).1 h3;exact⟨o,ho,h4 _ _ _ hb⟩;obtain⟨a1,a2,a3,a4⟩:=DC.row r g n cap sz (E8 h).1;exact⟨a1,a2,λhm=>a3 (List.mem_of_mem_take hm),a4⟩;obtain⟨h1,h2⟩:=hF r n h;rcases DC.Lm r n h1 with ⟨h3,h4⟩ | ⟨g,cap,sz,h3⟩
 exact .inl ⟨Tj h3 h2,h4⟩;exact .inr ⟨g,cap,sz,Tj h3 h2⟩
def ag8(hG:∀g cs,G g=some cs->Bx cs=true){live:List Nat}{n m:Nat}{s0:AS}{Cm:List AV}{s':AS}{Ig:List (FP n m)}{LA:List (FB n m)}{I0:List AV}{s2:AS}(hn:s0.nx<=n)(hr:s0.nr<=m)(hn2:n<=s'.nx)(uW:m<=s'.nr)(h:anL live n m Cm s' (Y5 Ig) (fbB LA)=some (I0,s2,iD Ig,fbA LA)):Frg G s0 Cm s' I0 s2:=by
 unfold anL at h;split at h;rename_i f1 as hm;split at h;rename_i h1 cas hb;simp only[Option.some.injEq,Prod.mk.injEq] at h;obtain⟨rfl,rfl,rfl,rfl⟩:=h;intro cx w c' w' vs hx hs DC YR;obtain⟨hd,hl⟩:=aju hb;refine agq (s:=s0) (s2:=⟨h1,n,aF m s'.F,m⟩) hG hn hr hn2 uW (hd _ (tS DC.desc)) (λid b hb=>?_) (λr n hr=>tC hr) (ais hm) cx w c' w' vs hx hs DC YR;obtain⟨b',h3,h4⟩:=hl id b hb;exact⟨b',WE DC.desc h3,h4⟩;cases h;cases h
def aoU(n:Nat):List Nat->Bool
 | []=>false
 | k::l=>Nat.beq n k||aoU n l
def eR(ks:List Nat):List (Nat×Bb)->List (Nat×Bb)
 | []=>[]
 | e::l=>match aoU e.1 ks with
   | true=>e::eR ks l
   | false=>eR ks l
def WS{ks:List Nat}:∀{l:List (Nat×Bb)} {n:Nat},KO l n->KO (eR ks l) n
 | [],_,_=>trivial
 | e::l,n,h=>by
   simp only[eR];split;exact⟨h.1,WS h.2⟩;exact(WS h.2).mono (Nat.le_of_lt h.1)
def WY{ks:List Nat}{id:Nat}{b:Bb}:∀{l:List (Nat×Bb)} {n:Nat},KO l n->look id (eR ks l)=some b->look id l=some b
 | [],_,_,h=>h
 | e::l,n,hd,h=>by
   simp only[eR] at h;split at h;simp only[look] at h ⊢;split at h;exact h;exact WY hd.2 h;have h1:=WY hd.2 h;have h2:=bS hd.2 h1;simp only[look];split;rename_i hb;have:=beq_true hb;omega;exact h1
def AS.pick(s:AS)(ks:List Nat):AS:=⟨eR ks s.h,s.nx,s.F,s.nr⟩
def St.pick{c:Cx}{w:World}{s:AS}(h:St G c w s)(ks:List Nat):St G c w (s.pick ks) :=
 ⟨h.len,WS h.desc,h.nodup,h.low,λid g b h1 h2=>h.box id g b h1 (WY h.desc h2),h.Kr,h.row,h.Lm,h.T8,h.SR,h.KK,h.RN,h.Xh⟩
def ake(ks:List Nat)(live:List Nat)(n m0:Nat)(P:Program)(fn:Func)(m:Nat)(bs:List AV)(cs:List Bb):HR->Option (List Cd×List AV×AS×List AV×List Bb)
 | some (.fin .ret,[],cd,fr,s)=>(match I4 P s fn fr with
   | some v=>(match Nat.ble n s.nx&&Nat.ble m0 s.nr with
     | true=>(match anL live n m0 [v] ((s.cut m).pick ks) bs cs with
       | some (I0,s2,as,cas)=>some (cd,I0,s2,as,cas)
       | none=>none)
     | false=>none)
   | none=>none)
 | _=>none
def cM(hG:∀g cs,G g=some cs->Bx cs=true){r:HR}{X:Prop}{s0:AS}{Q:AX->List AV->AS->Prop}(fn:Func)(m:Nat){l:List (PC P G)}(ks:List Nat)(live:List Nat){n m0:Nat}(Ig:List (FP n m0))(LA:List (FB n m0))(v:AV)(s2:AS)(R:gG P G l Q r X)(hn:s0.nx<=n)(hr:s0.nr<=m0)
   (h:ake ks live n m0 P fn m (Y5 Ig) (fbB LA) r=some (YX l,[v],s2,iD Ig,fbA LA)) (k:Jm P G fn m s0 Q v s2):X:=by
 unfold ake at h;split at h;split at h;rename_i v' hv;split at h;rename_i hle;simp only[Bool.and_eq_true] at hle;split at h;rename_i h1;simp only[Option.some.injEq,Prod.mk.injEq] at h;obtain⟨rfl,rfl,rfl,rfl,rfl⟩:=h;exact R _ _ _ _ rfl (UO l) (k _ _ (λcx w c' w' vs hx hs DC hf=>ag8 (s':=(AS.cut _ m).pick ks) hG hn hr (Nat.le_of_ble_eq_true hle.1) (Nat.le_of_ble_eq_true hle.2) h1 cx w c' w' vs hx hs (DC.pick ks) hf) _ _ hv rfl);cases h;cases h;cases h;cases h
inductive RnH(dn dr nx nr:Nat):List (Nat×Bb)->List (Nat×Bb)->Prop where
 | nil:RnH dn dr nx nr [] []
 | cons {i:Nat} {b b':Bb} {l m:List (Nat×Bb)} (h:RnB dn dr (λi=>nx+i) (λr=>nr+r) b b') (t:RnH dn dr nx nr l m):RnH dn dr nx nr ((i,b)::l) ((nx+i,b')::m)
def RnH.desc{dn dr nx nr:Nat}{l m h:List (Nat×Bb)}(hr:RnH dn dr nx nr l m)(hh:KO h nx):∀{n:Nat},KO l n->KO (m++h) (nx+n):=by
 induction hr with
 | nil=>intro n _;exact hh.mono (Nat.le_add_right _ _)
 | cons h1 t ih=>intro n hd;exact⟨Nat.add_lt_add_left hd.1 _,ih hd.2⟩
def RnH.look{dn dr nx nr id:Nat}{b:Bb}{l m h:List (Nat×Bb)}(hr:RnH dn dr nx nr l m)(hb:AI.look id (m++h)=some b):(∃i b0,id=nx+i/\AI.look i l=some b0/\RnB dn dr (λi=>nx+i) (λr=>nr+r) b0 b)\/AI.look id h=some b:=by
 induction hr with
 | nil=>exact .inr hb
 | @cons i b0 b1 l m h1 t ih =>
   simp only[List.cons_append,AI.look] at hb;split at hb;rename_i he;cases hb;refine .inl ⟨i,b0,(beq_true he).symm,?_,h1⟩;simp only[AI.look];rw[Nat.beq_refl];rename_i he;have KS:=beq_false he;rcases ih hb with ⟨i',b',e,h2,h3⟩ | h2
   refine .inl ⟨i',b',e,?_,h3⟩;simp only[AI.look];split;rename_i h4;have:=beq_true h4;omega;exact h2;exact .inr h2
def acf{nr r n:Nat}{F:List (Nat×Nat)}:∀{F2:List (Nat×Nat)},Ec r (F2.map (λp=>(nr+p.1,p.2))++F)=some n->(∃q,r=nr+q/\Ec q F2=some n)\/Ec r F=some n:=by
 intro F2
 induction F2 with
 | nil=>exact λh=>.inr h
 | cons x l ih =>
   intro h;simp only[List.map_cons,List.cons_append,Ec] at h;split at h;rename_i he;cases h;refine .inl ⟨x.1,(beq_true he).symm,?_⟩;simp only[Ec];rw[Nat.beq_refl];rename_i he;have KS:=beq_false he;rcases ih h with ⟨q,e,h2⟩ | h2
   refine .inl ⟨q,e,?_⟩;simp only[Ec];split;rename_i h4;have:=beq_true h4;omega;exact h2;exact .inr h2
def mQ(hG:∀g cs,G g=some cs->Bx cs=true){f:FuncId}{args:List AV}{v v':AV}{h2 h3:List (Nat×Bb)}{dn dr nx nr:Nat}{F2:List (Nat×Nat)}(h:Sound P G (.call f args ⟨[],0,[],0⟩ (.ret v) ⟨h2,dn,F2,dr⟩))(hp:Bx args=true)
   (hv:Rn dn dr (λi=>nx+i) (λr=>nr+r) v v') (hb:RnH dn dr nx nr h2 h3):Cd.ok P G (.YH f args nx nr v' h3 dn (F2.map λp=>(nr+p.1,p.2)) dr):=by
 intro s hnx hnr cx w vs hs ha;subst hnx hnr;have hlp:=hs.len;have hlr:=hs.Kr
 have Ls:∀g i x,Pu cx w g i x->Pu ⟨w.heap.size,[],[],cx.iT⟩ w g i x:=by
   intro g i x hx;refine⟨hx.1,λMF=>?_,hx.2.2⟩;rcases MF with MF | ⟨r,n,cap,sz,hr,_⟩ | MF
   cases MF;simp at hr;exact hx.2.1 MF
 have HK:St G ⟨w.heap.size,[],[],cx.iT⟩ w ⟨[],0,[],0⟩ :=
   ⟨rfl,trivial,(λi j g h1=>by simp at h1),(λg hg=>by cases hg),(λid g b h1=>by simp at h1),rfl,(λr g n cap sz hr=>by simp at hr),(λr n hr=>by cases hr),(λg hg=>by cases hg),(λg i hb=>hs.ZB hb),(λr r' g n cap sz n' DQ Qc hr=>by simp at hr),(λg cs hg=>Bn.plain Ls (hG g cs hg) (hs.RN g cs hg)),Nat.le_refl _⟩
 refine(h _ w vs HK (C8.plain Ls hp ha)).mono ?_;rintro e w' ⟨c',hx,DC,u,rfl,hu⟩;have Ou:=hx.below;have Ur:sL w w' (λ_=>False):=⟨Ou.os,Ou.tape,Ou.output,Ou.size,λk hk _=>Ou.block k hk⟩;have hpn:∀g,some g∈c'.C6->w.heap.size<=g:=λg hg=>(hx.yH g hg).resolve_left (by simp);have hrn:∀(r:Nat) g n cap sz,c'.rows[r]?=some (.U7 g n cap sz)->w.heap.size<=g:=λr g n cap sz hg=>(hx.tF r g n cap sz hg).resolve_left (by rintro⟨_,_,_,_,hh⟩;simp at hh);have jJ:dn=c'.C6.length:=DC.len;have uW:dr=c'.rows.length:=DC.Kr;let c1:Cx:=⟨cx.base,cx.C6++c'.C6,cx.rows++c'.rows,cx.bad⟩
 have hpu:∀(i:Nat) g,c'.C6[i]?=some (some g)->c1.C6[s.nx+i]?=some (some g):=λi g hg=>by
   show(cx.C6++c'.C6)[s.nx+i]?=_;rw[List.getElem?_append_right (by omega),show s.nx+i - cx.C6.length=i by omega];exact hg
 have hru:∀(r:Nat) x,c'.rows[r]?=some x->c1.rows[s.nr+r]?=some x:=λr x hg=>by
   show(cx.rows++c'.rows)[s.nr+r]?=_;rw[List.getElem?_append_right (by omega),show s.nr+r - cx.rows.length=r by omega];exact hg
 have hpc:∀(i:Nat) g,c1.C6[i]?=some (some g)->(i < s.nx/\cx.C6[i]?=some (some g))\/∃k,i=s.nx+k/\c'.C6[k]?=some (some g):=λi g hg=>by
   have hg:(cx.C6++c'.C6)[i]?=some (some g):=hg;by_cases hi:i < cx.C6.length;rw[List.getElem?_append_left hi] at hg;exact .inl ⟨by omega,hg⟩;rw[List.getElem?_append_right (by omega)] at hg;exact .inr ⟨i - cx.C6.length,by omega,hg⟩
 have hrc:∀(i:Nat) x,c1.rows[i]?=some x->(i < s.nr/\cx.rows[i]?=some x)\/∃k,i=s.nr+k/\c'.rows[k]?=some x:=λi x hg=>by
   have hg:(cx.rows++c'.rows)[i]?=some x:=hg;by_cases hi:i < cx.rows.length;rw[List.getElem?_append_left hi] at hg;exact .inl ⟨by omega,hg⟩;rw[List.getElem?_append_right (by omega)] at hg;exact .inr ⟨i - cx.rows.length,by omega,hg⟩
 have hmc:∀g,some g∈c1.C6->some g∈cx.C6\/some g∈c'.C6:=λg hg=>List.mem_append.1 hg;have Q1:∀g i,cx.iT g i->c'.iT g i:=λg i hh=>.inr (.inr (by rw[hx.bad];exact hh))
 have aH:∀g i x,Pu c' w' g i x->Pu c1 w' g i x:=by
   intro g i x hvv;refine⟨hvv.1,λMF=>hvv.2.1 ?_,hvv.2.2⟩;rcases MF with MF | ⟨q,n,cap,sz,hq,h1,h2⟩ | MF
   rcases hmc g MF with hm | hm
   exact Q1 _ _ (.inl hm);exact .inl hm;rcases hrc q _ hq with ⟨_,h3⟩ | ⟨k,_,h3⟩
   exact Q1 _ _ (.inr (.inl ⟨q,n,cap,sz,h3,h1,h2⟩));exact .inr (.inl ⟨k,n,cap,sz,h3,h1,h2⟩);exact Q1 _ _ (.inr (.inr MF))
 have ext:Ext cx w c1 w':=by
   refine⟨List.prefix_append _ _,by simp[c1],λq y hq hy=>?_,λg i x hv=>aH g i x (hx.qP g i x (Ls g i x hv)),Ur.below hs.Xh (λ_ hf=>hf.elim),rfl,rfl,λg hg=>?_,λq g n cap sz hq=>?_,λq hq hp hr=>Ur.block q hq (λhf=>hf)⟩;rcases hrc q y hy with ⟨_,h3⟩ | ⟨k,h3,_⟩
   exact⟨y,h3,Ow.refl y⟩;omega;rcases hmc g hg with hm | hm
   exact .inl hm;exact .inr (hpn g hm);rcases hrc q _ hq with ⟨_,h3⟩ | ⟨k,_,h3⟩
   exact .inl ⟨_,_,_,_,h3⟩;exact .inr (hrn _ _ _ _ _ h3)
 have hup:Up dn dr (λi=>s.nx+i) (λr=>s.nr+r) c' w' c1 w':=⟨aH,λi g _ hg=>hpu i g hg,λq hq=>by
   have hq:q < c'.rows.length:=by omega
   exact⟨_,hru q _ (List.getElem?_eq_getElem hq),List.getElem?_eq_getElem hq⟩⟩
 have st1:St G c1 w' ⟨h3++s.h,s.nx+dn,F2.map (λp=>(s.nr+p.1,p.2))++s.F,s.nr+dr⟩:=by
   refine⟨by simp only[c1,List.length_append];omega,hb.desc hs.desc DC.desc,λi j g h1 h2=>?_,λg hg=>?_,λid g b h1 h2=>?_,by simp only[c1,List.length_append];omega,λq g n cap sz hq=>?_,λq n hq=>?_,λg hg=>?_,λg i hb=>Nat.lt_of_lt_of_le (hs.SR g i hb) Ur.size,λq q' g n cap sz n' DQ Qc h1 h2=>?_,λg cs kS=>(hs.RN g cs kS).mono ext,Nat.le_trans hs.Xh Ur.size⟩;rcases hpc i g h1 with ⟨_,a1⟩ | ⟨k,rfl,a1⟩<;>rcases hpc j g h2 with ⟨_,a2⟩ | ⟨k2,rfl,a2⟩
   exact hs.nodup _ _ _ a1 a2;have:=hs.Oe (List.mem_of_getElem? a1);have:=hpn g (List.mem_of_getElem? a2);omega;have:=hs.Oe (List.mem_of_getElem? a2);have:=hpn g (List.mem_of_getElem? a1);omega;rw[DC.nodup _ _ _ a1 a2];rcases hmc g hg with hm | hm
   exact hs.low g hm;exact Nat.le_trans hs.Xh (hpn g hm);rcases hb.look h2 with ⟨i,b0,rfl,h4,h5⟩ | h4
   rcases hpc _ g h1 with ⟨a0,_⟩ | ⟨k,a0,a1⟩
   omega;have:k=i:=by omega
   subst this;obtain⟨o,ho,hbo⟩:=DC.box k g b0 a1 h4;exact⟨o,ho,h5.up hup hbo⟩;have IJ:=bS hs.desc h4;rcases hpc _ g h1 with ⟨_,a1⟩ | ⟨k,a0,_⟩
   obtain⟨o,ho,hbo⟩:=hs.box id g b a1 h4;refine⟨o,?_,hbo.mono ext⟩;rw[Ur.block g (Array.getElem?_eq_some_iff.1 ho).1 (λhf=>hf)];exact ho;omega;rcases hrc q _ hq with ⟨_,h3⟩ | ⟨k,_,h3⟩
   obtain⟨a1,a2,a3,a4,vs',T,a5,a6⟩:=hs.row _ _ _ _ _ h3;refine⟨a1,a2,λhm=>?_,a4,vs',T,?_,a6⟩;rcases hmc g hm with hm | hm
   exact a3 hm;have:=hpn g hm;have:=hs.Xd h3;omega;rw[Ur.block g (Array.getElem?_eq_some_iff.1 a5).1 (λhf=>hf)];exact a5;obtain⟨a1,a2,a3,a4,a5⟩:=DC.row _ _ _ _ _ h3;have wV:=hrn _ _ _ _ _ h3;refine⟨λi hb=>?_,Nat.le_trans hs.Xh wV,λhm=>?_,a4,a5⟩;have:=hs.SR _ _ hb;omega;rcases hmc g hm with hm | hm
   have:=hs.Oe hm;omega;exact a3 hm;rcases acf hq with ⟨k,rfl,h4⟩ | h4
   rcases DC.Lm k n h4 with ⟨h5,h6⟩ | ⟨g,cap,sz,h5⟩
   exact .inl ⟨hru _ _ h5,h6⟩;exact .inr ⟨g,cap,sz,hru _ _ h5⟩
   have key:∀x,cx.rows[q]?=some x->c1.rows[q]?=some x:=λx hh=>by
     show(cx.rows++c'.rows)[q]?=_;rw[List.getElem?_append_left (List.getElem?_eq_some_iff.1 hh).1];exact hh
   rcases hs.Lm q n h4 with ⟨h5,h6⟩ | ⟨g,cap,sz,h5⟩
   exact .inl ⟨key _ h5,h6⟩;exact .inr ⟨g,cap,sz,key _ h5⟩;rcases hmc g hg with hm | hm
   exact Nat.lt_of_lt_of_le (hs.T8 g hm) Ur.size;exact DC.T8 g hm;rcases hrc q _ h1 with ⟨_,a1⟩ | ⟨k,rfl,a1⟩<;>rcases hrc q' _ h2 with ⟨_,a2⟩ | ⟨k2,rfl,a2⟩
   exact hs.KK _ _ _ _ _ _ _ _ _ a1 a2;have:=hs.Xd a1;have:=hrn _ _ _ _ _ a2;omega;have:=hs.Xd a2;have:=hrn _ _ _ _ _ a1;omega;rw[DC.KK _ _ _ _ _ _ _ _ _ a1 a2]
 exact⟨c1,ext,st1,u,rfl,hv.up hup hu⟩
def nQ{f:FuncId}{args:List AV}{nx nr:Nat}{v:AV}{h:List (Nat×Bb)}{dn:Nat}{F:List (Nat×Nat)}{dr:Nat}(h1:Cd.ok P G (.YH f args nx nr v h dn F dr)):PC P G :=
 ⟨.cn v h dn F dr,[.YH f args nx nr v h dn F dr],⟨h1,trivial⟩⟩
end
end AI
namespace AI
open Go Go.RowKit
section
variable {P:Program} {G:Bh}
def MG.aeI{α:Type}{f:α->List AV}{C:List α->List AV}{k:Nat}(h:MG f C k)(h1:∀x,(f x).all one=true)(m:List α):(C m).all one=true:=by
 rw[h.eq,List.all_eq_true];intro a ha;obtain⟨x,_,hx⟩:=List.mem_flatMap.1 ha;exact List.all_eq_true.1 (h1 x) a hx
def MG.ga{α:Type}{f:α->List AV}{C:List α->List AV}{k:Nat}(h:MG f C k){t tx e e2 by':Nat}(hu:P.underlying t=some (.slice e))(hux:P.underlying tx=some (.slice e2))(hi:(P.info? e).map (λi=>(i.size,i.bytes,i.zero.map (·.cells.size)))=some (k,by',some k))(hk:0 < k)(hb:by'<=10000)
   (own:Own) (l m:List α) {o:Own} (s:AS) (hm:m.length=0) (hlen:l.length+m.length<=100000000):Cd.ok P G (.bV s t tx (.sl own l.length (C l)) (.sl o m.length (C m)) (.sl own l.length (C l)) s):=by
 have hm0:m=[]:=List.eq_nil_of_length_eq_zero hm;subst hm0;cases hq:P.info? e with
 | none=>rw[hq] at hi;cases hi
 | some i =>
   rw[hq] at hi;simp only[Option.map_some,Option.some.injEq,Prod.mk.injEq] at hi;obtain⟨h1,h2,h3⟩:=hi;cases hz:i.zero with
   | none=>rw[hz] at h3;cases h3
   | some z =>
     rw[hz] at h3;simp only[Option.map_some,Option.some.injEq] at h3;have hc:C []=[]:=by rw[h.eq];rfl
     have wG:(C l).length=l.length*k:=by rw[h.eq,Nw h.len]
     refine⟨.sl own l.length (C l),?_,λc w u hr=>hr⟩
     have hs:yY P s i.size tx (.sl o ([]:List α).length (C []))=some (0,[]):=by
       unfold yY;rw[hux,hc];simp
     unfold PR;simp only[hu,hq,hz];rw[if_pos ⟨by rw[h3,h1],by omega⟩,hs];simp only[List.length_nil] at hlen ⊢
     have hbb:(l.length+0)*i.bytes<=140737488355328:=by
       rw[h2];exact Nat.le_trans (Nat.mul_le_mul hlen hb) (by decide)
     rw[if_pos ⟨by rw[wG,h1],rfl,hbb,by omega⟩,if_pos trivial]
def pga{s:AS}{t tx:TypeId}{a b:AV}(h:Cd.ok P G (.bV s t tx a b a s)):PC P G:=⟨.a a s,[.bV s t tx a b a s],⟨h,trivial⟩⟩
end
end AI
namespace AI
open Go Go.RowKit
def ajH:Nat->Nat->List Nat->List Nat
 | 0,_,acc=>acc
 | k+1,n,acc=>match Nat.ble n 1 with
   | true=>acc
   | false=>ajH k (n / 2) (n % 2::acc)
def sb(c:Code)(n:Nat):Code:=sub c (ajH 200 n [])
def wk1(a:AV):AV->AV
 | .any=>yK a
 | .sl .lost _ _=>(match a with
   | .sl _ n cs=>.sl .lost n cs
   | a=>a)
 | _=>a
def alS{c:Cx}{w:World}{a b:AV}{v:Value}(hr:Rp c w a v):Rp c w (wk1 a b) v:=by
 unfold wk1;split;exact acq hr;split;cases hr with
 | Ln _=>exact .Ln trivial
 | Pg hn hc _=>exact .Pg hn hc trivial
 exact hr;exact hr
def wkF:List AV->List AV->List AV
 | a::l,b::k=>wk1 a b::wkF l k
 | l,_=>l
def w7{c:Cx}{w:World}:∀{l k:List AV} {vs:List Value},C8 c w l vs->C8 c w (wkF l k) vs
 | [],k,_,h=>by cases k<;>exact h
 | a::l,[],_,h=>h
 | a::l,b::k,_,h=>by cases h with | cons h1 t=>exact .cons (alS h1) (w7 t)
def xQ(n:Nat):AV->Bool
 | .fn _ a b=>ab0 a&&ab0 b
 | a=>obv n a
where
 ab0:List AV->Bool
   | []=>true
   | a::l=>obv n a&&ab0 l
def bZ{n m:Nat}:∀{l:List AV},xQ.ab0 n l=true->DU n m l=true
 | [],_=>rfl
 | a::l,h=>by
   simp only[xQ.ab0,Bool.and_eq_true] at h;simp only[DU,Bool.and_eq_true];refine⟨?_,bZ h.2⟩;have h1:=h.1;cases a<;>simp only[obv] at h1<;>first | rfl | (cases h1;done) | exact decide_eq_true (Nat.le_of_ble_eq_true h1)
def aiZ{n m:Nat}{a:AV}(h:xQ n a=true):Fits n m a a:=by
 cases a with
 | fn f a b =>
   simp only[xQ,Bool.and_eq_true] at h;exact .under (by simp only[under,Bool.and_eq_true];exact⟨bZ h.1,bZ h.2⟩)
 | _=>exact afN h
def zK(r:List AV->MR)(n:Nat)(a:AV)(bs:List AV):MR:=match xQ n a with
 | true=>lV a (r bs)
 | false=>none
def j8(n:Nat):List AV->List AV->List AV->MR
 | [],_,[]=>some ([],[])
 | [],_,_::_=>none
 | a::l,[],bs=>mF (j8 n l []) a bs
 | a::l,b::k,bs=>match UL b with
   | true=>mF (j8 n l k) a bs
   | false=>(match xQ n b with
     | true=>zK (j8 n l k) n a bs
     | false=>ahk (j8 n l k) a bs)
def abJ{n m:Nat}{r:List AV->MR}{l:List AV}(hr:∀(Ig:List (FP n m)) l2,r (Y5 Ig)=some (l2,iD Ig)->Kc n m l l2){a:AV}{Ig:List (FP n m)}{l2:List AV}(h:zK r n a (Y5 Ig)=some (l2,iD Ig)):Kc n m (a::l) l2:=by
 unfold zK at h;split at h;rename_i ho;unfold lV at h;split at h;rename_i l3 as h1;cases h;exact .cons (aiZ ho) (hr Ig _ h1);cases h;cases h
def ahG{n m:Nat}:∀{l k:List AV} {Ig:List (FP n m)} {l2:List AV},j8 n l k (Y5 Ig)=some (l2,iD Ig)->Kc n m l l2:=by
 intro l
 induction l with
 | nil =>
   intro k Ig l2 h;cases Ig with
   | nil=>simp only[Y5,j8] at h;cases h;exact .nil
   | cons p Ig=>simp only[Y5,j8] at h;cases h
 | cons a l ih =>
   intro k Ig l2 h;cases k with
   | nil=>simp only[j8] at h;exact XD (λIg l2 h=>ih h) h
   | cons b k =>
     simp only[j8] at h;split at h;exact XD (λIg l2 h=>ih h) h;split at h;exact abJ (λIg l2 h=>ih h) h;exact aat (λIg l2 h=>ih h) h
abbrev FO(n m:Nat):=Option (FB n m)
def qS{n m:Nat}:List (FO n m)->List (Option Bb)
 | []=>[]
 | none::l=>none::qS l
 | some p::l=>some p.a::qS l
def mG{n m:Nat}:List (FO n m)->List (Option Bb)
 | []=>[]
 | none::l=>none::mG l
 | some p::l=>some p.b::mG l
def asd(n:Nat):Bb->Bool
 | .cells cs=>xQ.ab0 n cs
 | _=>false
abbrev BO:=Option (List (Nat×Bb)×List (Option Bb))
def aac(id:Nat)(a:Option Bb)(b:Bb):BO->BO
 | some (l,as)=>some ((id,b)::l,a::as)
 | none=>none
def jC(n:Nat):List (Nat×Bb)->List (Option Bb)->BO
 | [],[]=>some ([],[])
 | e::l,none::bs=>(match asd n e.2 with
   | true=>aac e.1 none e.2 (jC n l bs)
   | false=>none)
 | e::l,some b::bs=>aac e.1 (some e.2) b (jC n l bs)
 | _,_=>none
def aiT{n m:Nat}:∀{l:List (Nat×Bb)} {LA:List (FO n m)} {l2:List (Nat×Bb)},jC n l (mG LA)=some (l2,qS LA)->(∀k,KO l k->KO l2 k)/\∀id b,look id l2=some b->∃b',look id l=some b'/\Rj n m b' b:=by
 intro l
 induction l with
 | nil =>
   intro LA l2 h;cases LA with
   | nil=>simp only[mG,jC] at h;cases h;exact⟨λ_ _=>trivial,λid b h=>by cases h⟩
   | cons p LA=>cases p<;>(simp only[mG,jC] at h;cases h)
 | cons e l ih =>
   intro LA l2 h
   have fin:∀{LA:List (FO n m)} {l3:List (Nat×Bb)} {b2:Bb},jC n l (mG LA)=some (l3,qS LA)->Rj n m e.2 b2->(∀k,KO (e::l) k->KO ((e.1,b2)::l3) k)/\∀id b,look id ((e.1,b2)::l3)=some b->∃b',look id (e::l)=some b'/\Rj n m b' b:=by
     intro LA l3 b2 h1 hf;obtain⟨hd,hl⟩:=ih h1;refine⟨λk hk=>⟨hk.1,hd _ hk.2⟩,λid b hb=>?_⟩;simp only[look] at hb ⊢;split at hb;cases hb;exact⟨e.2,rfl,hf⟩;exact hl id b hb
   cases LA with
   | nil=>simp only[mG,jC] at h;cases h
   | cons p LA =>
     cases p with
     | none =>
       simp only[mG,jC] at h;split at h;rename_i ho;unfold aac at h;split at h;rename_i l3 as h1;simp only[qS,Option.some.injEq,Prod.mk.injEq,List.cons.injEq,true_and] at h;obtain⟨rfl,rfl⟩:=h;refine fin h1 ?_;cases he:e.2 with
       | cells cs=>rw[he] at ho;exact .cells (.under (bZ ho))
       | _=>rw[he] at ho;cases ho
       cases h;cases h
     | some p =>
       simp only[mG,jC] at h;unfold aac at h;split at h;rename_i l3 as h1;simp only[qS,Option.some.injEq,Prod.mk.injEq,List.cons.injEq] at h;obtain⟨rfl,h2,rfl⟩:=h;exact fin h1 (by rw[h2];exact p.h);cases h
abbrev RO2:=Option (List AV×AS×List AV×List (Option Bb))
def ahH(tgt:List AV)(n m:Nat)(Cm:List AV)(s':AS)(bs:List AV)(cs:List (Option Bb)):RO2 :=
 match j8 n Cm tgt bs with
 | some (I0,as)=>(match jC n (Wb n s'.h) cs with
   | some (h2,cas)=>some (I0,⟨h2,n,aF m s'.F,m⟩,as,cas)
   | none=>none)
 | none=>none
section
variable {P:Program} {G:Bh}
def pW(hG:∀g cs,G g=some cs->Bx cs=true){tgt:List AV}{s0:AS}{Cm:List AV}{s':AS}{Ig:List (FP s0.nx s0.nr)}{LA:List (FO s0.nx s0.nr)}{I0:List AV}{s2:AS}(h:ahH tgt s0.nx s0.nr Cm s' (Y5 Ig) (mG LA)=some (I0,s2,iD Ig,qS LA)):Frg G s0 Cm s' I0 s2:=by
 unfold ahH at h;split at h;rename_i f1 as hm;split at h;rename_i h1 cas hb;simp only[Option.some.injEq,Prod.mk.injEq] at h;obtain⟨rfl,rfl,rfl,rfl⟩:=h;intro cx w c' w' vs hx hs DC YR;obtain⟨hd,hl⟩:=aiT hb;refine aiU (s:=s0) (s2:=⟨h1,s0.nx,aF s0.nr s'.F,s0.nr⟩) hG rfl rfl (hd _ (tS DC.desc)) (λid b hb=>?_) (λr n hr=>tC hr) (ahG hm) cx w c' w' vs hx hs DC YR;obtain⟨b',h3,h4⟩:=hl id b hb;exact⟨b',WE DC.desc h3,h4⟩;cases h;cases h
def Frg.wk{s0 s':AS}{Cm k:List AV}:Frg G s0 Cm s' (wkF Cm k) s':=λ_ _ c' _ _ hx _ DC YR=>⟨c',hx,DC,w7 YR⟩
def n6(tgt:List AV):HR->Option (AX×List Cd×List AV×AS)
 | some (.fin e,[],cd,fr,s)=>some (e,cd,wkF fr tgt,s)
 | _=>none
def aj2{r:HR}{X:Prop}{L:Code}{s0:AS}{Q:AX->List AV->AS->Prop}{l:List (PC P G)}{I0:List AV}{s2:AS}(R:gG P G l (Sb P G L s0 Q) r X)(h:n6 I0 r=some (.normal,YX l,I0,s2))(k:WL P G (XS P G) H0 L I0 s2 Q):X:=by
 unfold n6 at h;split at h;simp only[Option.some.injEq,Prod.mk.injEq] at h;obtain⟨rfl,rfl,h3,rfl⟩:=h;exact R _ _ _ _ rfl (UO l) ⟨_,_,h3▸Frg.wk,k⟩;cases h
def ae7{r:HR}{X:Prop}{L:Code}{s0:AS}{Q:AX->List AV->AS->Prop}{l:List (PC P G)}{id:Nat}{I0:List AV}{s2:AS}(R:gG P G l (Sb P G L s0 Q) r X)(h:n6 I0 r=some (.exit id,YX l,I0,s2))(k:Q (.exit id) I0 s2):X:=by
 unfold n6 at h;split at h;simp only[Option.some.injEq,Prod.mk.injEq] at h;obtain⟨rfl,rfl,h3,rfl⟩:=h;exact R _ _ _ _ rfl (UO l) ⟨_,_,h3▸Frg.wk,k⟩;cases h
def aaG(tgt:List AV)(n m:Nat)(bs:List AV)(cs:List (Option Bb)):HR->Option (AX×List Cd×List AV×AS×List AV×List (Option Bb))
 | some (.fin e,[],cd,fr,s)=>(match ahH tgt n m fr s bs cs with
   | some (I0,s2,as,cas)=>some (e,cd,I0,s2,as,cas)
   | none=>none)
 | _=>none
def ajI(hG:∀g cs,G g=some cs->Bx cs=true){r:HR}{X:Prop}{L:Code}{s0:AS}{Q:AX->List AV->AS->Prop}{l:List (PC P G)}(Ig:List (FP s0.nx s0.nr))(LA:List (FO s0.nx s0.nr)){I0:List AV}{s2:AS}(R:gG P G l (Sb P G L s0 Q) r X)
   (h:aaG I0 s0.nx s0.nr (Y5 Ig) (mG LA) r=some (.normal,YX l,I0,s2,iD Ig,qS LA)) (k:WL P G (XS P G) H0 L I0 s2 Q):X:=by
 unfold aaG at h;split at h;split at h;rename_i h1;simp only[Option.some.injEq,Prod.mk.injEq] at h;obtain⟨rfl,rfl,rfl,rfl,rfl,rfl⟩:=h;exact R _ _ _ _ rfl (UO l) ⟨_,_,pW hG h1,k⟩;cases h;cases h
def pS(n m0:Nat)(P:Program)(fn:Func)(m:Nat)(e0:AX)(tgt bs:List AV)(cs:List (Option Bb)):HR->Option (AX×List Cd×List AV×AS×List AV×List (Option Bb))
 | some (.fin e,[],cd,fr,s)=>(match I4 P s fn fr with
   | some v=>(match ahH tgt n m0 [v] (s.cut m) bs cs with
     | some (I0,s2,as,cas)=>some (e,cd,I0,s2,as,cas)
     | none=>none)
   | none=>none)
 | _=>none
def adg(hG:∀g cs,G g=some cs->Bx cs=true){r:HR}{X:Prop}{s0:AS}{Q:AX->List AV->AS->Prop}(fn:Func)(m:Nat){l:List (PC P G)}(Ig:List (FP s0.nx s0.nr))(LA:List (FO s0.nx s0.nr)){v:AV}{s2:AS}(R:gG P G l Q r X)
   (h:pS s0.nx s0.nr P fn m .ret [v] (Y5 Ig) (mG LA) r=some (.ret,YX l,[v],s2,iD Ig,qS LA)) (k:Jm P G fn m s0 Q v s2):X:=by
 unfold pS at h;split at h;split at h;rename_i v' hv;split at h;rename_i h1;simp only[Option.some.injEq,Prod.mk.injEq] at h;obtain⟨rfl,rfl,rfl,rfl,rfl,rfl⟩:=h;exact R _ _ _ _ rfl (UO l) (k _ _ (pW hG h1) _ _ hv rfl);cases h;cases h;cases h
def akn(hG:∀g cs,G g=some cs->Bx cs=true){r:HR}{X:Prop}{s0:AS}(fn:Func)(m:Nat){l:List (PC P G)}(Ig:List (FP s0.nx s0.nr))(LA:List (FO s0.nx s0.nr)){v:AV}{s2:AS}(R:gG P G l (PE P fn m (QM G s0 (.ret v) s2)) r X)
   (h:pS s0.nx s0.nr P fn m .normal [v] (Y5 Ig) (mG LA) r=some (.normal,YX l,[v],s2,iD Ig,qS LA)):X:=by
 unfold pS at h;split at h;split at h;rename_i v' hv;split at h;rename_i h1;simp only[Option.some.injEq,Prod.mk.injEq] at h;obtain⟨rfl,rfl,rfl,rfl,rfl,rfl⟩:=h;exact R _ _ _ _ rfl (UO l) ⟨_,hv,_,rfl,pW hG h1⟩;cases h;cases h;cases h
def ahf(z:List NZ)(tgt:List AV):HR->Option (List Cd×Nat×Code×List KI×List AV×AS)
 | some (.at id c ks,[],cd,fr,s)=>(match nzs z fr s with
   | some (I0,s2)=>some (cd,id,c,ks,wkF I0 tgt,s2)
   | none=>none)
 | _=>none
def pY{r:HR}{X:Prop}{Q:AX->List AV->AS->Prop}{l:List (PC P G)}(z:List NZ)(id:Nat)(L:Code)(Ox:List KI){I0:List AV}{s2:AS}(R:gG P G l Q r X)
   (h:ahf z I0 r=some (YX l,id,L,Ox,I0,s2)) (k:WL P G (XS P G) H0 L I0 s2 (Cy id (Ce P G Ox Q))):X:=by
 unfold ahf at h;split at h;split at h;rename_i fr3 s3 hz;simp only[Option.some.injEq,Prod.mk.injEq] at h;obtain⟨rfl,rfl,rfl,rfl,h5,rfl⟩:=h;refine R _ _ _ _ rfl (UO l) ?_;obtain⟨e3,fr4,s4,h3,h4⟩:=k;refine⟨e3,fr4,s4,.ako (λcx w vs hs hr=>?_) h3,h4⟩;obtain⟨c2,x2,YU,r2⟩:=aft hz cx w vs hs hr;exact⟨c2,x2,YU,h5▸w7 r2⟩;cases h;cases h
def jv(j:List Value)(k:Nat):Value:=alv j k
def frQ:Nat->Nat->List (Nat×AV)->List Nat->Nat->List Value->List AV
 | 0,_,_,_,_,_=>[]
 | n+1,p,l,bs,kb,j=>(match frm.iX p l with
   | some v=>v::frQ n (p+1) (l.drop 1) bs kb j
   | none=>(match frm.dM p bs with
     | true=>.sc (jv j kb)::frQ n (p+1) l (bs.drop 1) (kb+1) j
     | false=>.any::frQ n (p+1) l bs kb j))
def fr(n:Nat)(l:List (Nat×AV))(bs:List Nat)(j:List Value):List AV:=frQ n 0 l bs 0 j
def Z1{δ:Type}(Q:AX->List AV->AS->Prop)(id:Nat)(F:δ->List Value->List AV)(S:δ->AS)(d:δ):Prop:=∀j,Q (.exit id) (F d j) (S d)
section loops
variable {α γ δ ρ β:Type} {id:Nat} {L:Code} {Ox:List KI} {Q:AX->List AV->AS->Prop} {done:γ->δ} {X:Prop} {k:δ->Option β} {kr:ρ->Option β} {r:β}
def ado(Rv:(AX->List AV->AS->Prop)->ρ->Prop){body:Nat->α->γ->Option (Lp γ δ ρ)}{l:List α}{i0:Nat}{x:γ}(F:Nat->γ->List Value->List AV)(S:γ->AS)(XF:δ->List Value->List AV)(SX:δ->AS)(j:List Value)
   (VP:WL P G (XS P G) H0 L (F i0 x j) (S x) (Cy id (Ce P G Ox Q))->X)
   (hz:∀i x j,l.length<=i->Z1 (Cy id (Ce P G Ox Q)) id XF SX (done x)->W P G (XS P G) H0 L (F i x j) (S x) (Sb P G L (S x) (Cy id (Ce P G Ox Q))))
   (hs:∀i y x j r,l[i]?=some y->i < l.length->i < 9223372036854775807->RQ (λx'=>∀j',WL P G (XS P G) H0 L (F (i+1) x' j') (S x') (Cy id (Ce P G Ox Q))) (Z1 (Cy id (Ce P G Ox Q)) id XF SX) (Rv (Cy id (Ce P G Ox Q))) r->body i y x=some r->W P G (XS P G) H0 L (F i x j) (S x) (Sb P G L (S x) (Cy id (Ce P G Ox Q))))
   (hb:∀d j,k d=some r->Ce P G Ox Q .normal (XF d j) (SX d)) (hr:∀v,kr v=some r->Rv (Cy id (Ce P G Ox Q)) v) :
   (ED l.length (Au body done (l.drop i0) i0 x)).bind (Eu k kr)=some r->X:=λh=>by
 obtain⟨VU,h1,h2⟩:=pN h;obtain⟨hl,h1⟩:=arq h1;refine VP (ahF l F (λ_ x _=>S x) (λ_=>True) (Z1 (Cy id (Ce P G Ox Q)) id XF SX) (Rv (Cy id (Ce P G Ox Q))) (λi x j _ h3 h4=>eK (hz i x j h3 h4)) (λi y x j r _ h3 h4 h5 h6=>eK (hs i y x j r h3 h4 (by omega) (by cases r with | nx _=>exact λj'=>h6 j' trivial | ex _=>exact h6 | rt _=>exact h6) h5)) i0 h1 ?_ j trivial)
 cases VU with
 | inl d =>
   intro j;show Ce P G Ox Q (Gk id (.exit id)) _ _;rw[show Gk id (.exit id)=.normal from by simp[Gk]];exact hb d j h2
 | inr v=>exact hr v h2
def atE(Rv:(AX->List AV->AS->Prop)->ρ->Prop){body:Nat->γ->Option (Lp γ δ ρ)}{n:Nat}{x:γ}(F:Nat->γ->List Value->List AV)(S:γ->AS)(XF:δ->List Value->List AV)(SX:δ->AS)(j:List Value)
   (VP:WL P G (XS P G) H0 L (F 0 x j) (S x) (Cy id (Ce P G Ox Q))->X)
   (hz:∀x j,n<=n->Z1 (Cy id (Ce P G Ox Q)) id XF SX (done x)->W P G (XS P G) H0 L (F n x j) (S x) (Sb P G L (S x) (Cy id (Ce P G Ox Q))))
   (hs:∀i x j r,i < n->i < 9223372036854775807->RQ (λx'=>∀j',WL P G (XS P G) H0 L (F (i+1) x' j') (S x') (Cy id (Ce P G Ox Q))) (Z1 (Cy id (Ce P G Ox Q)) id XF SX) (Rv (Cy id (Ce P G Ox Q))) r->body i x=some r->W P G (XS P G) H0 L (F i x j) (S x) (Sb P G L (S x) (Cy id (Ce P G Ox Q))))
   (hb:∀d j,k d=some r->Ce P G Ox Q .normal (XF d j) (SX d)) (hr:∀v,kr v=some r->Rv (Cy id (Ce P G Ox Q)) v) :
   (ED n (oH body done n 0 x)).bind (Eu k kr)=some r->X:=λh=>by
 obtain⟨VU,h1,h2⟩:=pN h;obtain⟨hl,h1⟩:=arq h1;refine VP (anp n F (λ_ x _=>S x) (λ_=>True) (Z1 (Cy id (Ce P G Ox Q)) id XF SX) (Rv (Cy id (Ce P G Ox Q))) (λx j _ h4=>eK (hz x j (Nat.le_refl n) h4)) (λi x j r _ h4 h5 h6=>eK (hs i x j r h4 (by omega) (by cases r with | nx _=>exact λj'=>h6 j' trivial | ex _=>exact h6 | rt _=>exact h6) h5)) h1 ?_ j trivial)
 cases VU with
 | inl d =>
   intro j;show Ce P G Ox Q (Gk id (.exit id)) _ _;rw[show Gk id (.exit id)=.normal from by simp[Gk]];exact hb d j h2
 | inr v=>exact hr v h2
def am5(Rv:(AX->List AV->AS->Prop)->ρ->Prop){body:γ->Option (Lp γ δ ρ)}{x:γ}(F:γ->List Value->List AV)(S:γ->AS)(XF:δ->List Value->List AV)(SX:δ->AS)(j:List Value)
   (VP:WL P G (XS P G) H0 L (F x j) (S x) (Cy id (Ce P G Ox Q))->X)
   (hs:∀x j r,RQ (λx'=>∀j',WL P G (XS P G) H0 L (F x' j') (S x') (Cy id (Ce P G Ox Q))) (Z1 (Cy id (Ce P G Ox Q)) id XF SX) (Rv (Cy id (Ce P G Ox Q))) r->body x=some r->W P G (XS P G) H0 L (F x j) (S x) (Sb P G L (S x) (Cy id (Ce P G Ox Q))))
   (hb:∀d j,k d=some r->Ce P G Ox Q .normal (XF d j) (SX d)) (hr:∀v,kr v=some r->Rv (Cy id (Ce P G Ox Q)) v) :
   (pK body x).bind (Eu k kr)=some r->X:=λh=>by
 obtain⟨VU,h1,h2⟩:=pN h;obtain⟨n,h1⟩:=aiR h1;refine VP (ahu F (λx _=>S x) (λ_=>True) (Z1 (Cy id (Ce P G Ox Q)) id XF SX) (Rv (Cy id (Ce P G Ox Q))) (λx j r _ h5 h6=>eK (hs x j r (by cases r with | nx _=>exact λj'=>h6 j' trivial | ex _=>exact h6 | rt _=>exact h6) h5)) n h1 ?_ j trivial)
 cases VU with
 | inl d =>
   intro j;show Ce P G Ox Q (Gk id (.exit id)) _ _;rw[show Gk id (.exit id)=.normal from by simp[Gk]];exact hb d j h2
 | inr v=>exact hr v h2
end loops
def bL{ks:List KI}{fr:List AV}{s:AS}{Q:AX->List AV->AS->Prop}(n:Nat)(l:List (PC P G)):gG P G l Q (N3 (HN P G n) ks .normal (TN l) fr s) (Ce P G ks Q .normal fr s):=λ_ _ _ _ h hc hk=>aad (aar n) ks _ h hc hk
def pi{i:Nat}(h:i < 9223372036854775807):PC P G:=aty i h
def bp{n m:Nat}{a:List AV}(h:Bx a=true):FO n m:=some ⟨.cells a,.cells a,.cells (.plain h)⟩
def bu{n m:Nat}(a:List AV)(h:DU n m a=true):FO n m:=some ⟨.cells a,.cells a,.cells (.under h)⟩
def bw{n m:Nat}(a b:Bb)(h:Rj n m a b):FO n m:=some ⟨a,b,h⟩
def unR{n m r sz k:Nat}{l:List AV}(h:decide (r < m)=true)(t:DU n m l=true):under n m (.sl (.row r sz) k l)=true:=by simp only[under,h,t];rfl
def br{α:Type}{f:α->List AV}{C:List α->List AV}{k n m:Nat}(h:MG f C k)(r z:Nat)(w:List α)(hr:decide (r < m)=true:=by rfl):FO n m:=some ⟨.cells [.sl (.row r z) w.length (C w)],.cells [.sl (.row r z) w.length (C w)],.cells (.under (by simp only[DU,unR hr (Af _ _ (h.Aq w))];rfl))⟩
def pure_nil{f:FuncId}{n:Nat}{cs:List AV}{v:AV}(h1:n=0->cs=[]->Pure P G f [.sl .nil 0 []] v)(h2:Pure P G f [.sl .nn n cs] v):Pure P G f [.sl .lost n cs] v:=λs cx w vs hs ha=>by
 cases ha with
 | cons h t =>
   cases h with
   | @Ln _ A cap _ =>
     cases hA:A.isNone with
     | true=>exact h1 rfl rfl s cx w _ hs (.cons (.Ln hA) t)
     | false=>exact h2 s cx w _ hs (.cons (.Ln hA) t)
   | Pg hn hc _=>exact h2 s cx w _ hs (.cons (.Pg hn hc trivial) t)
def apH{n:Nat}{l:List AV}(h:Bx l=true):plain (.sl .nn n l)=true:=by simp only[plain,h];rfl
end
end AI
namespace AI
open Go Go.RowKit
section
variable {P:Program} {G:Bh}
def akg(G:Bh)(s:AS)(a v:AV):Prop:=∀(c:Cx) (w:World) (u:Value),St G c w s->(∀g,some g∈c.C6->∀i,¬c.bad g i)->Rp c w a u->Rp (c.upto 0 0) w v u
inductive Fz(s:AS):List AV->List AV->Prop where
 | nil:Fz s [] []
 | r {a b:AV} {l k:List AV} (h:Fits 0 0 a b) (t:Fz s l k):Fz s (a::l) (b::k)
 | f {id n:Nat} {cs l k:List AV} (h:s.get id=some (.cells cs)) (hp:Bx cs=true) (t:Fz s l k):Fz s (.G2 id 0 n::l) (.sl .lost n cs::k)
 | g {cs ds l k:List AV} (h:Fz s cs ds) (t:Fz s l k):Fz s (.agg cs::l) (.agg ds::k)
 | u {cs ds l k:List AV} (h:Fz s cs ds) (t:Fz s l k):Fz s (.Bj cs::l) (.Bj ds::k)
def Fz.ok{s:AS}{c:Cx}{w:World}(hs:St G c w s)(hb:∀g,some g∈c.C6->∀i,¬c.bad g i){l k:List AV}(h:Fz s l k):∀{us:List Value},C8 c w l us->C8 (c.upto 0 0) w k us:=by
 induction h with
 | nil=>intro us hr;cases hr;exact .nil
 | r h _ ih=>intro us hr;cases hr with | cons h1 t=>exact .cons (h _ _ _ h1) (ih t)
 | @f id n cs l k h hp _ ih =>
   intro us hr;cases hr with
   | cons h1 t =>
     refine .cons ?_ (ih t);cases h1 with
     | @G2 _ _ _ g cap hn hid =>
       obtain⟨vs,ext,T,hw,hv⟩:=Qd hs hid h;have hg:=List.mem_of_getElem? hid
       have Ls:∀g i v,Pu c w g i v->Pu (c.upto 0 0) w g i v:=λg i v hv=>⟨hv.1,λMF=>by
         rcases MF with MF | ⟨r,n',DQ,Qc,hr,_⟩ | MF
         simp[Cx.upto] at MF;simp[Cx.upto] at hr;exact hv.2.1 (.inr (.inr MF)),hv.2.2⟩
       refine .Pg hn (Bn.Xs (C8.plain Ls hp hv) (λi v hi=>?_)) trivial;rw[Nat.zero_add];refine⟨hs.T8 g hg,λMF=>?_,cell_of_heap hw (nO hi)⟩;rcases MF with MF | ⟨r,n',DQ,Qc,hr,_⟩ | MF
       simp[Cx.upto] at MF;simp[Cx.upto] at hr;exact hb g hg i MF
 | g _ _ v9 ih2=>intro us hr;cases hr with | cons h1 t=>cases h1 with | agg h2=>exact .cons (.agg (v9 h2)) (ih2 t)
 | u _ _ v9 ih2=>intro us hr;cases hr with | cons h1 t=>cases h1 with | Bj h2=>exact .cons (.Bj (v9 h2)) (ih2 t)
def akg.of{s:AS}{a v:AV}(h:Fz s [a] [v]):akg G s a v:=λc w u hs hb hr=>by
 have:=h.ok hs hb (.cons hr .nil);cases this with
 | cons h1 _=>exact h1
end
end AI
namespace AI
open Go
def MG.as3{P:Program}{α:Type}{f:α->List AV}{C:List α->List AV}{k:Nat}(h:MG f C k){t elem:TypeId}(hu:P.underlying t=some (.slice elem))(hs:(P.info? elem).map (·.size)=some k)(own:Own)(l q:Nat){s:List α}(h1:l<=q)(h2:q < s.length)(lo hi:Option AV)(e1:MH 0 lo=some l)(e2:MH s.length hi=some q) :
   KL P t (.sl own s.length (C s)) lo hi none=some (.sl .lost ((s.drop l).take (q - l)).length (C ((s.drop l).take (q - l)))):=by
 cases QZ:P.info? elem with
 | none=>rw[QZ] at hs;cases hs
 | some e =>
   rw[QZ] at hs;have hk:e.size=k:=by simpa using hs
   unfold KL;simp only[hu,QZ,e1,e2,hk];rw[if_pos ⟨h1,by omega,by rw[h.eq,Nw h.len]⟩];rw[if_neg (by omega),if_neg (by omega),h.eq,h.eq,UA h.len,Ul h.len];congr 2;simp;omega
def MG.arZ{P:Program}{α:Type}{f:α->List AV}{C:List α->List AV}{k:Nat}(h:MG f C k){t elem:TypeId}(hu:P.underlying t=some (.slice elem))(hs:(P.info? elem).map (·.size)=some k)(own:Own){s:List α}(hi:Option AV)(e2:MH s.length hi=some s.length) :
   KL P t (.sl own s.length (C s)) none hi none=some (.sl own s.length (C s)):=by
 cases QZ:P.info? elem with
 | none=>rw[QZ] at hs;cases hs
 | some e =>
   rw[QZ] at hs;have hk:e.size=k:=by simpa using hs
   unfold KL;simp only[hu,QZ,show MH 0 none=some 0 from rfl,e2,hk];rw[if_pos ⟨by omega,by omega,by rw[h.eq,Nw h.len]⟩,if_pos ⟨trivial,trivial⟩,Nat.zero_mul,List.drop_zero,Nat.sub_zero,List.take_of_length_le (by rw[h.eq,Nw h.len];omega)]
end AI
