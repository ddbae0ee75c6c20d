/- Part of a proof: see the last text. -/
import Derived.Test.YtpbkhogolfegfaaGreatDoorPtf
import Derived.Laws.StructEq
set_option linter.unusedVariables false
set_option linter.unusedSimpArgs false
set_option linter.defProp false
noncomputable section
namespace AI
open Go Go.RowKit
inductive Wn:List AV->List AV->Prop where
 | nil:Wn [] []
 | r {a:AV} {l k:List AV} (t:Wn l k):Wn (a::l) (a::k)
 | s {o:Own} {n:Nat} {cs ds l k:List AV} (h:cs=ds) (t:Wn l k):Wn (.sl o n cs::l) (.sl .lost n ds::k)
 | d {o:Own} {n:Nat} {cs ds es l k:List AV} (h:Wn cs ds) (e:ds=es) (t:Wn l k):Wn (.sl o n cs::l) (.sl .lost n es::k)
 | g {cs ds l k:List AV} (h:Wn cs ds) (t:Wn l k):Wn (.agg cs::l) (.agg ds::k)
 | u {cs ds l k:List AV} (h:Wn cs ds) (t:Wn l k):Wn (.Dk cs::l) (.Dk ds::k)
def Wn.refl:∀l:List AV,Wn l l
 | []=>.nil
 | _::l=>.r (Wn.refl l)
def Wn.len{l k:List AV}(h:Wn l k):l.length=k.length:=by
 induction h with
 | nil=>rfl
 | r _ ih=>simp[ih]
 | s _ _ ih=>simp[ih]
 | d _ _ _ _ ih=>simp[ih]
 | g _ _ _ ih=>simp[ih]
 | u _ _ _ ih=>simp[ih]
section
variable {c:Cx} {w:World}
mutual
def Wn.ok:∀{l k:List AV},Wn l k->∀{vs:List Value},CG c w l vs->CG c w k vs
 | _,_,.nil,_,hr=>hr
 | _,_,.r t,_,hr=>by cases hr with | cons h1 t1=>exact .cons h1 (t.ok t1)
 | _,_,.s h t,_,hr=>by
   subst h;cases hr with
   | cons h1 t1 =>
     refine .cons ?_ (t.ok t1);cases h1 with
     | Jc _=>exact .Jc trivial
     | KM hn hc ho=>exact .KM hn hc trivial
 | _,_,.d h e t,_,hr=>by
   subst e;cases hr with
   | cons h1 t1 =>
     refine .cons ?_ (t.ok t1);cases h1 with
     | Jc _=>cases h;exact .Jc trivial
     | KM hn hc ho=>exact .KM hn (h.okC hc) trivial
 | _,_,.g h t,_,hr=>by
   cases hr with
   | cons h1 t1 =>
     refine .cons ?_ (t.ok t1);cases h1 with
     | agg h2=>exact .agg (h.ok h2)
 | _,_,.u h t,_,hr=>by
   cases hr with
   | cons h1 t1 =>
     refine .cons ?_ (t.ok t1);cases h1 with
     | Dk h2=>exact .Dk (h.ok h2)
def Wn.okC:∀{l k:List AV},Wn l k->∀{g o:Nat},A9 c w g o l->A9 c w g o k
 | _,_,.nil,_,_,hr=>hr
 | _,_,.r t,_,_,hr=>by cases hr with | cons hv h1 t1=>exact .cons hv h1 (t.okC t1)
 | _,_,.s h t,_,_,hr=>by
   subst h;cases hr with
   | cons hv h1 t1 =>
     refine .cons hv ?_ (t.okC t1);cases h1 with
     | Jc _=>exact .Jc trivial
     | KM hn hc ho=>exact .KM hn hc trivial
 | _,_,.d h e t,_,_,hr=>by
   subst e;cases hr with
   | cons hv h1 t1 =>
     refine .cons hv ?_ (t.okC t1);cases h1 with
     | Jc _=>cases h;exact .Jc trivial
     | KM hn hc ho=>exact .KM hn (h.okC hc) trivial
 | _,_,.g h t,_,_,hr=>by
   cases hr with
   | cons hv h1 t1 =>
     refine .cons hv ?_ (t.okC t1);cases h1 with
     | agg h2=>exact .agg (h.ok h2)
 | _,_,.u h t,_,_,hr=>by
   cases hr with
   | cons hv h1 t1 =>
     refine .cons hv ?_ (t.okC t1);cases h1 with
     | Dk h2=>exact .Dk (h.ok h2)
end
end
def Wn.TU{a b c d:List AV}(h:Wn a b)(k:Wn c d):Wn (a++c) (b++d):=by
 induction a generalizing b with
 | nil=>cases h;exact k
 | cons x a ih =>
   cases h with
   | r t=>exact .r (ih t)
   | s h t=>exact .s h (ih t)
   | d h e t=>exact .d h e (ih t)
   | g h t=>exact .g h (ih t)
   | u h t=>exact .u h (ih t)
def Rp.wnC{c:Cx}{w:World}{o:Own}{q:Nat}{cs ds:List AV}{u:Value}(h:Wn cs ds)(hr:Rp c w (.sl o q cs) u):Rp c w (.sl o q ds) u:=by
 cases hr with
 | Jc h0=>cases h;exact .Jc h0
 | KM hn hc ho=>exact .KM hn (h.okC hc) (by rw[<- h.len];exact ho)
def Fits.wn{n m:Nat}{a b:AV}(h:Wn [a] [b])(hp:AI.plain b=true):Fits n m a b:=λc w v hr=>by
 have:=h.ok (.cons hr .nil);cases this with
 | cons h1 _=>exact Fits.plain hp c w v h1
section
variable {P:Program} {G:A6}
def D7(hm:P.follows .mixedOrders=true)(hG:∀g cs,G g=some cs->BA cs=true){f:FuncId}{args:List AV}{v:AV}(h:WC P G (XS P G) H0 f args s0 (λr _=>∃a,r=.ret a/\Fits 0 0 a v))(hp:BA args=true)(hv:plain v=true):Pure P G f args v:=by
 obtain⟨r,s',hj,a,rfl,hf⟩:=h;have hS:=sound (Rz hm) hj;intro s cx w vs hs Gp
 have Ij:∀g i x,LD cx w g i x->LD ⟨w.heap.size,[],[],cx.Zp⟩ w g i x:=by
   intro g i x hx;refine⟨hx.1,λGq=>?_,hx.2.2⟩;rcases Gq with Gq | ⟨r,n,cap,sz,hr,_⟩ | Gq
   cases Gq;simp at hr;exact hx.2.1 Gq
 have F4:St G ⟨w.heap.size,[],[],cx.Zp⟩ w s0 :=
   ⟨rfl,trivial,(λi j g h1=>by simp at h1),(λg hg=>by cases hg),(λid g b h1=>by simp at h1),rfl,(λr g n cap sz hr=>by simp at hr),(λr n hr=>by cases hr),(λg hg=>by cases hg),(λg i hb=>hs.TD hb),(λr r' g n cap sz n' BJ M7 hr=>by simp at hr),(λg cs hg=>A9.plain Ij (hG g cs hg) (hs.Mq g cs hg)),Nat.le_refl _⟩
 refine(hS _ w vs F4 (CG.plain Ij hp Gp)).mono ?_;rintro e w' ⟨c',hx,_,u,rfl,hu⟩;have N8:=hx.below;obtain⟨x2,TV⟩:=hs.same (w':=w') ⟨N8.os,N8.tape,N8.output,N8.size,λk hk _=>N8.block k hk⟩;refine⟨cx,x2,TV,u,rfl,Rp.plain (c:=c'.upto 0 0) (λg i x iJ=>⟨iJ.1,λGq=>iJ.2.1 (.inr (.inr ?_)),iJ.2.2⟩) hv (hf _ _ _ hu)⟩;show c'.bad g i;rw[hx.bad];exact Gq
def Ni(P:Program)(fn:Func)(m:Nat)(Q:AX->List AV->AS->Prop)(v:AV):Prop:=∀a s2,Fits 0 0 a v->Rb P fn m Q a s2
def Ni.body{fn:Func}{m:Nat}{v:AV}:Ni P fn m (SG P fn m (λr _=>∃a,r=.ret a/\Fits 0 0 a v)) v:=λa _ h=>.body ⟨a,rfl,h⟩
def Ni.outer{fn:Func}{m id:Nat}{ks:List KI}{Q:AX->List AV->AS->Prop}{v:AV}(h:Ni P fn m Q v):Ni P fn m (EC id (D8 P G ks Q)) v:=λa s2 hf=>(h a s2 hf).outer
def Sj{δ J:Type}(Q:AX->List AV->AS->Prop)(id:Nat)(F:δ->J->List AV)(S:δ->J->AS)(Ok:J->Prop)(d:δ):Prop:=∀j,Ok j->Q (.exit id) (F d j) (S d j)
def afI(P:Program)(fn:Func):HR->Option (List Cd×AV)
 | some (.fin .ret,[],cd,fr,s)=>(match Gn P s fn fr with
   | some v=>some (cd,v)
   | none=>none)
 | _=>none
def Bc{r:HR}{X:Prop}{Q:AX->List AV->AS->Prop}{v w:AV}(fn:Func)(m:Nat){l:List (PC P G)}(R:T3 P G l Q r X)(h:afI P fn r=some (fF l,v))(k:Ni P fn m Q w)(hf:Fits 0 0 v w):X:=by
 unfold afI at h;split at h;rename_i cd B8 s';split at h;rename_i v' hv;simp only[Option.some.injEq,Prod.mk.injEq] at h;obtain⟨rfl,rfl⟩:=h;exact R _ _ _ _ rfl (NE l) (k _ _ hf _ _ hv rfl);cases h;cases h
def Ni.GJ{fn:Func}{m:Nat}{L:Code}{s0:AS}{Q:AX->List AV->AS->Prop}{v:AV}(h:Ni P fn m Q v):Ni P fn m (TA P G L s0 Q) v:=h
def PZ{δ ρ β:Type}(k:δ->Option β)(kr:ρ->Option β):δ⊕ρ->Option β
 | .inl d=>k d
 | .inr v=>kr v
def pk:PC P G:=⟨.k,[],trivial⟩
def pb{B b:Bool}(h:B=b):PC P G:=⟨.b b,[.eqb B b],⟨h,trivial⟩⟩
def pn{B b:Bool}(h:B=b):PC P G:=⟨.b (!b),[.eqb (!B) (!b)],⟨by show(!B)=(!b);rw[h],trivial⟩⟩
def ajw{i:Nat}(h:i < 9223372036854775807):MG .i64 (yE ((i:Nat):Int) 1)=((i+1:Nat):Int):=by
 rw[UR,bH];have:=adl (i:=i+1) (by omega);rw[<- this];rfl
def apG(i:Nat)(h:i < 9223372036854775807):PC P G:=⟨.i ((i+1:Nat):Int),[.eqi (MG .i64 (yE ((i:Nat):Int) 1)) ((i+1:Nat):Int)],⟨ajw h,trivial⟩⟩
def Be{f:FuncId}{args:List AV}{v:AV}(h:Pure P G f args v):PC P G:=⟨.w v,[.pur f args v],⟨h,trivial⟩⟩
def H8{f:FuncId}{args VL:List AV}{v:AV}(w:Wn args VL)(h:Pure P G f VL v):PC P G:=⟨.w v,[.pur f args v],⟨λs cx wd vs hs ha=>h s cx wd vs hs (w.ok ha),trivial⟩⟩
def IP{t:TypeId}{a b v:AV}(h:Db P t a b=some v):PC P G:=⟨.w v,[.idx t a b v],⟨h,trivial⟩⟩
def pst{t:TypeId}{a b v:AV}(h:Ln P t a b=some v):PC P G:=⟨.w v,[.ix t a b v],⟨h,trivial⟩⟩
def PI{op:BinOp}{t:TypeId}{x y:Operand}{a b v:AV}(h:Mk P op t x y a b=some v):PC P G:=⟨.w v,[.bin op t x y a b v],⟨h,trivial⟩⟩
def al7{t:TypeId}{a:AV}{l h m:Option AV}{v:AV}(e:Nk P t a l h m=some v):PC P G:=⟨.o v,[.sli t a l h m v],⟨e,trivial⟩⟩
def BS(a b:Int):Int:=MG .i64 (yE a b)
def Sz(a b:Int):Int:=MG .i64 (eB a b)
def BN(a b:Int):Int:=MG .i64 (a*b)
def Mp{α:Type}(l:List α)(z:Int):Option α:=if 0<=z then l[z.toNat]? else none
structure OM{α:Type}(f:α->List AV)(C:List α->List AV)(k:Nat):Prop where
 eq:∀l,C l=rows f l
 len:∀x,(f x).length=k
 pl:∀x,BA (f x)=true
def OM.TU{α:Type}{f:α->List AV}{C:List α->List AV}{k:Nat}(h:OM f C k)(l m:List α):C (l++m)=C l++C m:=by rw[h.eq,h.eq,h.eq,OC]
def OM.cons{α:Type}{f:α->List AV}{C:List α->List AV}{k:Nat}(h:OM f C k)(x:α)(m:List α):C (x::m)=f x++C m:=by rw[h.eq,h.eq,Gj]
def OM.BE{α:Type}{f:α->List AV}{C:List α->List AV}{k:Nat}(h:OM f C k)(l:List α):BA (C l)=true:=by rw[h.eq];exact oO λx _=>h.pl x
def OM.KC{α:Type}{f:α->List AV}{C:List α->List AV}{k:Nat}(h:OM f C k)(l:List α):plain (.sl .lost l.length (C l))=true:=by simp only[plain,h.BE];rfl
def OM.CW{α:Type}{f:α->List AV}{C:List α->List AV}{k:Nat}(h:OM f C k)(x:α):plain (.agg (f x))=true:=h.pl x
def OM.ix{α:Type}{f:α->List AV}{C:List α->List AV}{k:Nat}(h:OM f C k){t elem:TypeId}(hu:P.underlying t=some (.slice elem))(hs:(P.info? elem).map (·.size)=some k)(own:Own){l:List α}{i:Nat}{x:α}(hx:l[i]?=some x):Db P t (.sl own l.length (C l)) (.sc (.int .i64 ((i:Nat):Int)))=some (.el (f x++C (l.drop (i+1)))):=by
 cases hi:P.info? elem with
 | none=>rw[hi] at hs;cases hs
 | some e =>
   rw[hi] at hs;rw[h.eq,h.eq];exact nR hu hi (by simpa using hs) h.len hx
def OM.ixz{α:Type}{f:α->List AV}{C:List α->List AV}{k:Nat}(h:OM f C k){t elem:TypeId}(hu:P.underlying t=some (.slice elem))(hs:(P.info? elem).map (·.size)=some k)(own:Own){l:List α}{z:Int}{x:α}(hx:Mp l z=some x):Db P t (.sl own l.length (C l)) (.sc (.int .i64 z))=some (.el (f x++C (l.drop (z.toNat+1)))):=by
 unfold Mp at hx;split at hx;rename_i hz;have:=h.ix hu hs own hx;rwa[Int.toNat_of_nonneg hz] at this;cases hx
def OM.wn{α:Type}{f:α->List AV}{C:List α->List AV}{k:Nat}(h:OM f C k)(m:List α){a:List AV}(w:Wn a (rows f m)):Wn a (C m):=by rw[h.eq];exact w
def V5{α:Type}{f:α->List AV}{k:Nat}(hf:∀x,(f x).length=k)(l:List α)(i:Nat):(rows f l).drop (i*k)=rows f (l.drop i):=by
 induction l generalizing i with
 | nil=>simp[rows]
 | cons x l ih =>
   cases i with
   | zero=>simp
   | succ i =>
     rw[Gj,List.drop_append,hf x,List.drop_eq_nil_of_le (by rw[hf x,Nat.add_mul];omega),List.nil_append,List.drop_succ_cons,<- ih i];congr 1;rw[Nat.add_mul];omega
def V6{α:Type}{f:α->List AV}{k:Nat}(hf:∀x,(f x).length=k)(l:List α)(i:Nat):(rows f l).take (i*k)=rows f (l.take i):=by
 induction l generalizing i with
 | nil=>simp[rows]
 | cons x l ih =>
   cases i with
   | zero=>simp[rows]
   | succ i =>
     rw[Gj,List.take_append,hf x,List.take_of_length_le (by rw[hf x,Nat.add_mul];omega),List.take_succ_cons,Gj,<- ih i];congr 2;rw[Nat.add_mul];omega
def OM.sub{α:Type}{f:α->List AV}{C:List α->List AV}{k:Nat}(h:OM f C k){t elem:TypeId}(hu:P.underlying t=some (.slice elem))(hs:(P.info? elem).map (·.size)=some k)(l q:Nat){s:List α}(h1:l<=q)(h2:q<=s.length)(lo hi:Option AV)(e1:ON 0 lo=some l)(e2:ON s.length hi=some q) :
   Nk P t (.sl .lost s.length (C s)) lo hi none=some (.sl .lost ((s.drop l).take (q - l)).length (C ((s.drop l).take (q - l)))):=by
 cases Pe:P.info? elem with
 | none=>rw[Pe] at hs;cases hs
 | some e =>
   rw[Pe] at hs;have hk:e.size=k:=by simpa using hs
   unfold Nk;simp only[hu,Pe,e1,e2,hk];rw[if_pos ⟨h1,h2,by rw[h.eq,IH h.len]⟩]
   have e3:(if l=0/\q=s.length then Own.lost else if q=s.length/\Own.lost=.full then .full else .lost)=.lost:=by
     split;rfl;split;rename_i hq;exact absurd hq.2 (by decide);rfl
   rw[e3,h.eq,h.eq,V5 h.len,V6 h.len];congr 2;simp;omega
def uR{β:Type}(f:Nat->Option β):Option β:=open Classical in if h:∃y,∃n0:Nat,∀n,n0<=n->f n=some y then some (Classical.choose h) else none
def gM{β:Type}{f:Nat->Option β}{y:β}(h:uR f=some y):∃n,f n=some y:=by
 unfold uR at h;split at h;rename_i hx;obtain⟨n0,hn⟩:=Classical.choose_spec hx;rw[Option.some.inj h] at hn;exact⟨n0,hn n0 (Nat.le_refl _)⟩;cases h
def S9{β:Type}{f:Nat->Option β}{y:β}(n0:Nat)(h:∀n,n0<=n->f n=some y):uR f=some y:=by
 unfold uR;have hx:∃y,∃n0:Nat,∀n,n0<=n->f n=some y:=⟨y,n0,h⟩;rw[dif_pos hx];obtain⟨n1,hn⟩:=Classical.choose_spec hx;have h1:=h (max n0 n1) (Nat.le_max_left _ _);have h2:=hn (max n0 n1) (Nat.le_max_right _ _);rw[h1] at h2;rw[Option.some.inj h2]
def OX{β:Type}(n:Nat)(x:Option β):Option β:=if n<=100000000 then x else none
def abu{β:Type}{n:Nat}{x:Option β}{r:β}(h:OX n x=some r):n<=100000000/\x=some r:=by
 unfold OX at h;split at h;rename_i h1;exact⟨h1,h⟩;cases h
def OM.ZG{α:Type}{f:α->List AV}{C:List α->List AV}{k:Nat}(h:OM f C k){t tx e e2 yO:Nat}(hu:P.underlying t=some (.slice e))(hux:P.underlying tx=some (.slice e2))(hi:(P.info? e).map (λi=>(i.size,i.bytes,i.zero.map (·.cells.size)))=some (k,yO,some k))(hk:0 < k)(hb:yO<=10000)
   (own:Own) (l m:List α) {o:Own} {n:Nat} {ns:List AV} (hn:Wn ns (C m)) (nI:n=m.length) (ho:ns.all one=true) (hm:m.length≠0) (hlen:l.length+m.length<=100000000):Cd.ok P G (.ZG t tx own l.length (C l) (.sl o n ns) k (l++m).length (C (l++m))):=by
 subst nI;cases hq:P.info? e with
 | none=>rw[hq] at hi;cases hi
 | some i =>
   rw[hq] at hi;simp only[Option.map_some,Option.some.injEq,Prod.mk.injEq] at hi;obtain⟨h1,h2,h3⟩:=hi;cases hz:i.zero with
   | none=>rw[hz] at h3;cases h3
   | some z =>
     rw[hz] at h3;simp only[Option.map_some,Option.some.injEq] at h3;intro s OW;have Vf:ns.length=m.length*k:=by rw[hn.len,h.eq,IH h.len]
     have nG:(C l).length=l.length*k:=by rw[h.eq,IH h.len]
     refine⟨C l++ns,?_,λc w u o' hr=>?_⟩
     have hs:We P s i.size tx (.sl o m.length ns)=some (m.length,ns):=by
       unfold We;rw[hux,h1];simp only[Vf,if_true]
     unfold KN;simp only[hu,hq,hz];rw[if_pos ⟨by rw[h3,h1],by omega⟩,hs];simp only
     have lR:(l.length+m.length)*i.bytes<=140737488355328:=by
       rw[h2];exact Nat.le_trans (Nat.mul_le_mul hlen hb) (by decide)
     rw[if_pos ⟨by rw[nG,h1],ho,lR,by omega⟩,if_neg hm,h1,if_pos OW,List.length_append];rw[h.TU];exact Rp.wnC (Wn.TU (Wn.refl (C l)) hn) hr
def Sv{t tx:TypeId}{own:Own}{n:Nat}{cs:List AV}{b:AV}{sz k:Nat}{cs2:List AV}(h:Cd.ok P G (.ZG t tx own n cs b sz k cs2)):PC P G :=
 match own with
 | .row r z=>⟨.g sz k cs2,[.ZG t tx (.row r z) n cs b sz k cs2,.eqn n n],⟨h,rfl,trivial⟩⟩
 | .full=>⟨.g sz k cs2,[.ZG t tx .full n cs b sz k cs2],⟨h,trivial⟩⟩
 | _=>⟨.g sz k cs2,[],trivial⟩
def BE{a:AV}{l:List AV}(h:plain a=true)(t:BA l=true):BA (a::l)=true:=by simp only[BA,h,t];rfl
def ahQ{a b:List AV}(ha:BA a=true)(hb:BA b=true):BA (a++b)=true:=by
 induction a with
 | nil=>exact hb
 | cons x a ih =>
   simp only[BA,Bool.and_eq_true,List.cons_append] at ha ⊢;exact⟨ha.1,ih ha.2⟩
def J1{n m:Nat}{a:AV}{l:List AV}(h:under n m a=true)(t:Fp n m l=true):Fp n m (a::l)=true:=by simp only[Fp,h,t];rfl
end
end AI
namespace AI
open Go Go.RowKit
def JK{P:Program}{α β:Type}(m:Sem α)(f:α->Sem β):pv P (m >>= f)=(pv P m).bind λa=>pv P (f a):=by
 show pv P (m.bind f)=_
 induction m with
 | pure a=>rfl
 | program k ih=>exact ih P
 | mark _ k ih=>exact ih
 | _=>rfl
def M0{P:Program}{α:Type}(a:α):pv P (pure a:Sem α)=some a:=rfl
def Tw{P:Program}:pv P program=some P:=rfl
def J5{P:Program}{t:TypeId}{d:TypeDesc}(h:P.underlying t=some d):pv P (underlying t)=some d:=by
 unfold underlying;rw[JK,Tw];simp only[Option.bind_some,h];rfl
def aj4{P:Program}{α:Type}(c:Prop)[Decidable c](a b:Sem α):pv P (if c then a else b)=if c then pv P a else pv P b:=by split<;>rfl
def Uv{P:Program}(d:Nat)(t:TypeId)(xs ys:Array Value)(ht:P.underlying t=some (.struct (P.fieldsOf t)))(hp:P.stoodInHeld t=false) :
   pv P (Op.equalIn (d+1) t (.agg xs) (.agg ys))=pv P (Op.eqFields d xs ys (P.fieldsOf t).toList):=by
 simp only[Op.equalIn,JK,J5 ht,Option.bind_some,Tw,hp,Bool.false_eq_true,if_false];rw[<- Array.forIn_toList];generalize (P.fieldsOf t).toList=fs;clear ht
 induction fs with
 | nil=>simp[Op.eqFields,M0]
 | cons f fs ih =>
   simp only[List.forIn_cons,Op.eqFields,JK,aj4];split
   . generalize pv P (part f.type xs f.offset)=r1
     cases r1 with
     | none=>simp
     | some a =>
       simp only[Option.bind_some];generalize pv P (part f.type ys f.offset)=r2;cases r2 with
       | none=>simp
       | some b =>
         simp only[Option.bind_some];generalize pv P (Op.equalIn d f.type a b)=r3;cases r3 with
         | none=>simp
         | some r =>
           cases r;simp[M0];simp only[Option.bind_some,Bool.not_true,Bool.false_eq_true,if_false,M0];exact ih
   simp only[M0,Option.bind_some];exact ih
def afA{P:Program}{t:TypeId}{k:IntKind}(h:P.underlying t=some (.int k))(cs:Array Value)(off:Nat){v:Value}(hv:cs[off]?=some v):pv P (part t cs off)=some v:=by
 unfold part isAgg;simp[JK,J5 h,M0,hv]
def Yl{P:Program}(d:Nat){t:TypeId}{k k':IntKind}(a b:Int)(h:P.underlying t=some (.int k')):pv P (Op.equalIn (d+1) t (.int k a) (.int k b))=some (a == b):=by
 simp[Op.equalIn,JK,J5 h,M0]
def jN{P:Program}(op:BinOp)(t:TypeId)(x y:Operand)(xs ys:Array Value)(hm:P.eqGuardType P.depth t=false):pv P (eqGuard op t x y (.agg xs) (.agg ys))=some ():=by
 cases op<;>simp[eqGuard,JK,Tw,hm,M0]
def Rx(P:Program)(t:TypeId):Nat:=match P.underlying t with
 | some (.int _)=>1
 | some .string=>2
 | _=>0
def fEq:Value->Value->Option Bool
 | .int k a,.int k' b=>if k=k' then some (a == b) else none
 | .string a,.string b=>some (a == b)
 | _,_=>none
def Y5:List Value->List Value->Option Bool
 | [],[]=>some true
 | a::as,b::bs=>(fEq a b).bind λr=>(match r with | true=>Y5 as bs | false=>some false)
 | _,_=>none
def jO{P:Program}{t:TypeId}(h:Rx P t≠0)(cs:Array Value)(off:Nat){v:Value}(hv:cs[off]?=some v):pv P (part t cs off)=some v:=by
 unfold Rx at h;split at h;rename_i h1;exact afA h1 cs off hv;rename_i h1;unfold part isAgg;simp[JK,J5 h1,M0,hv];exact absurd rfl h
def aj3{P:Program}(d:Nat){t:TypeId}{a b:Value}{r:Bool}(hk:(∃k n m,a=.int k n/\b=.int k m/\Rx P t=1)\/(∃x y,a=.string x/\b=.string y/\Rx P t=2))(h:fEq a b=some r):pv P (Op.equalIn (d+1) t a b)=some r:=by
 rcases hk with ⟨k,n,m,rfl,rfl,hk⟩ | ⟨x,y,rfl,rfl,hk⟩
 unfold Rx at hk;split at hk;rename_i h1;simp only[fEq,if_true] at h;rw[Yl d n m h1];exact h;cases hk;cases hk;unfold Rx at hk;split at hk;cases hk;rename_i h1;simp only[fEq] at h;rw[<- h];simp[Op.equalIn,JK,J5 h1,M0];cases hk
def gU:List Nat->List Value->Prop
 | [],[]=>True
 | k::ks,v::vs=>((∃n,v=.int .i64 n/\k=1)\/(∃x,v=.string x/\k=2))/\gU ks vs
 | _,_=>False
def vZ{P:Program}(d:Nat):∀(fs:List Field) (off:Nat) (ks:List Nat) (xs ys:List Value) (us vs:List Value) (r:Bool),fs.map (λf=>Rx P f.type)=ks->(∀(i:Nat) f,fs[i]?=some f->f.name≠"_"/\f.offset=off+i)->xs.drop off=us->ys.drop off=vs->gU ks us->gU ks vs->Y5 us vs=some r->pv P (Op.eqFields (d+1) xs.toArray ys.toArray fs)=some r:=by
 intro fs
 induction fs with
 | nil =>
   intro off ks xs ys us vs r fB _ hx hy h1 h2 h;cases ks with
   | cons=>cases fB
   | nil =>
     cases us<;>cases vs<;>simp only[gU,Y5] at h1 h2 h
     rw[<- h];rfl
 | cons f fs ih =>
   intro off ks xs ys us vs r fB hf hx hy h1 h2 h;cases ks with
   | nil=>cases fB
   | cons k ks =>
     cases us with
     | nil=>cases h1
     | cons u us =>
       cases vs with
       | nil=>cases h2
       | cons v vs =>
         simp only[List.map_cons,List.cons.injEq] at fB;obtain⟨hk,fB⟩:=fB;obtain⟨hn,ho⟩:=hf 0 f rfl;rw[Nat.add_zero] at ho;have hxu:xs.toArray[off]?=some u:=by rw[List.getElem?_toArray,<- List.head?_drop,hx];rfl
         have hyv:ys.toArray[off]?=some v:=by rw[List.getElem?_toArray,<- List.head?_drop,hy];rfl
         have hk0:Rx P f.type≠0:=by
           rw[hk];rcases h1.1 with ⟨_,_,e⟩ | ⟨_,_,e⟩<;>omega
         have hkk:(∃k n m,u=.int k n/\v=.int k m/\Rx P f.type=1)\/(∃x y,u=.string x/\v=.string y/\Rx P f.type=2):=by
           rw[hk];rcases h1.1 with ⟨n,e1,e2⟩ | ⟨n,e1,e2⟩<;>rcases h2.1 with ⟨m,e3,e4⟩ | ⟨m,e3,e4⟩
           exact .inl ⟨_,n,m,e1,e3,e2⟩;omega;omega;exact .inr ⟨n,m,e1,e3,e2⟩
         simp only[Y5] at h;cases hq:fEq u v with
         | none=>rw[hq] at h;cases h
         | some q =>
           rw[hq] at h;simp only[Op.eqFields,hn,ne_eq,not_false_eq_true,if_true,ho];simp only[JK,jO hk0 xs.toArray off hxu,jO hk0 ys.toArray off hyv,Option.bind_some,aj3 d hkk hq];cases q with
           | false =>
             have:r=false:=by simpa using h.symm
             subst this;rfl
           | true =>
             have ih:=ih (off+1) ks xs ys us vs r fB (λi f' hi=>by
               have:=hf (i+1) f' (by simpa using hi)
               exact⟨this.1,by rw[this.2];omega⟩) (by rw[<- List.tail_drop,hx];rfl) (by rw[<- List.tail_drop,hy];rfl) h1.2 h2.2 (by simpa using h)
             simpa using ih
structure Flat(P:Program)(t:TypeId)(ks:List Nat):Prop where
 st:P.underlying t=some (.struct (P.fieldsOf t))
 hp:P.stoodInHeld t=false
 hm:P.eqGuardType P.depth t=false
 kd:(P.fieldsOf t).toList.map (λf=>Rx P f.type)=ks
 nm:(P.fieldsOf t).toList.map (λf=>decide (f.name≠"_"))=List.replicate ks.length true
 of:(P.fieldsOf t).toList.map (λf=>f.offset)=List.range ks.length
def wR(vs:List Value):OG (vs.map .sc)=some vs:=by
 induction vs with
 | nil=>rfl
 | cons v vs ih=>simp[OG,YD,ih]
def Flat.pv{P:Program}{t:TypeId}{ks:List Nat}(h:Flat P t ks){us vs:List Value}{r:Bool}(h1:gU ks us)(h2:gU ks vs)(h3:Y5 us vs=some r):AI.pv P (Op.equalIn (9998+1+1) t (.agg us.toArray) (.agg vs.toArray))=some r:=by
 rw[Uv _ _ _ _ h.st h.hp];refine vZ 9998 _ 0 ks us vs us vs r h.kd (λi f hf=>?_) rfl rfl h1 h2 h3
 have hl:i < ks.length:=by
   have:=(List.getElem?_eq_some_iff.1 hf).1;have h5:=congrArg List.length h.kd;simp at h5 this;omega
 have a1:=congrArg (λl=>l[i]?) h.nm;have a2:=congrArg (λl=>l[i]?) h.of;simp only[List.getElem?_map,hf,Option.map_some,List.getElem?_replicate,hl,if_true,Option.some.injEq,decide_eq_true_eq] at a1;simp only[List.getElem?_map,hf,Option.map_some,List.getElem?_range hl,Option.some.injEq] at a2;exact⟨a1,by omega⟩
def Flat.bin{P:Program}{t:TypeId}{ks:List Nat}(h:Flat P t ks){us vs:List Value}{r:Bool}(h1:gU ks us)(h2:gU ks vs)(h3:Y5 us vs=some r)(x y:Operand) :
   Mk P .eql t x y (.agg (us.map .sc)) (.agg (vs.map .sc))=some (.sc (.bool r))/\Mk P .neq t x y (.agg (us.map .sc)) (.agg (vs.map .sc))=some (.sc (.bool (!r))):=by
 have ht:∀l:List Value,UH (.agg (l.map .sc))=some (.agg l.toArray):=λl=>by simp only[UH,wR,Option.map_some]
 have hv:=h.pv h1 h2 h3
 have e1:AI.pv P (do eqGuard .eql t x y (.agg us.toArray) (.agg vs.toArray);binOp .eql t (.agg us.toArray) (.agg vs.toArray))=some (.bool r):=by
   rw[JK,jN _ _ _ _ _ _ h.hm];simp only[Option.bind_some,binOp,JK,Op.equal,Op.maxDepth];rw[show(10000:Nat)=9998+1+1 from rfl,hv];rfl
 have e2:AI.pv P (do eqGuard .neq t x y (.agg us.toArray) (.agg vs.toArray);binOp .neq t (.agg us.toArray) (.agg vs.toArray))=some (.bool (!r)):=by
   rw[JK,jN _ _ _ _ _ _ h.hm];simp only[Option.bind_some,binOp,JK,Op.equal,Op.maxDepth];rw[show(10000:Nat)=9998+1+1 from rfl,hv];rfl
 refine⟨?_,?_⟩;show SD _ _ _ _ _ (.agg _) (.agg _)=_;unfold SD;simp only[ht,e1,Option.bind_some];rfl;show SD _ _ _ _ _ (.agg _) (.agg _)=_;unfold SD;simp only[ht,e2,Option.bind_some];rfl
def akH(x y:Int):Int:=if y > x then y else x
end AI
namespace AI
open Go Go.RowKit
mutual
inductive Rn(k j:Nat)(ρ σ:Nat->Nat):AV->AV->Prop where
 | pl {a:AV} (h:plain a=true):Rn k j ρ σ a a
 | ptr {i off:Nat} (h:i < k):Rn k j ρ σ (.ptr i off) (.ptr (ρ i) off)
 | mp {i:Nat} (h:i < k):Rn k j ρ σ (.mp i) (.mp (ρ i))
 | ID {i off n:Nat} (h:i < k):Rn k j ρ σ (.ID i off n) (.ID (ρ i) off n)
 | row {r sz n:Nat} {cs:List AV} (h:r < j) (hp:BA cs=true):Rn k j ρ σ (.sl (.row r sz) n cs) (.sl (.row (σ r) sz) n cs)
 | agg {cs ds:List AV} (h:T1 k j ρ σ cs ds):Rn k j ρ σ (.agg cs) (.agg ds)
 | Dk {cs ds:List AV} (h:T1 k j ρ σ cs ds):Rn k j ρ σ (.Dk cs) (.Dk ds)
 | fn {f:Fn} {a a' b b':List AV} (h1:T1 k j ρ σ a a') (h2:T1 k j ρ σ b b'):Rn k j ρ σ (.fn f a b) (.fn f a' b')
inductive T1(k j:Nat)(ρ σ:Nat->Nat):List AV->List AV->Prop where
 | nil:T1 k j ρ σ [] []
 | cons {a b:AV} {l m:List AV} (h:Rn k j ρ σ a b) (t:T1 k j ρ σ l m):T1 k j ρ σ (a::l) (b::m)
end
inductive tN(k j:Nat)(ρ σ:Nat->Nat):AL->AL->Prop where
 | cells {cs ds:List AV} (h:T1 k j ρ σ cs ds):tN k j ρ σ (.cells cs) (.cells ds)
 | map {es:List (Value×AV×Nat)} {cl:Nat} (h:∀e∈es,plain e.2.1=true):tN k j ρ σ (.map es cl) (.map es cl)
def T1.pl{k j:Nat}{ρ σ:Nat->Nat}:∀{l:List AV},BA l=true->T1 k j ρ σ l l
 | [],_=>.nil
 | a::l,h=>by
   simp only[BA,Bool.and_eq_true] at h;exact .cons (.pl h.1) (T1.pl h.2)
section
variable {c c':Cx} {w w':World} {k j:Nat} {ρ σ:Nat->Nat}
structure Dn(k j:Nat)(ρ σ:Nat->Nat)(c:Cx)(w:World)(c0:Cx)(w0:World):Prop where
 Zs:∀g i v,LD c w g i v->LD c0 w0 g i v
 CS:∀i g,i < k->c.CS[ρ i]?=some (some g)->c0.CS[i]?=some (some g)
 rows:∀r,r < j->∃x,c.rows[σ r]?=some x/\c0.rows[r]?=some x
structure Up(k j:Nat)(ρ σ:Nat->Nat)(c0:Cx)(w0:World)(c:Cx)(w:World):Prop where
 Zs:∀g i v,LD c0 w0 g i v->LD c w g i v
 CS:∀i g,i < k->c0.CS[i]?=some (some g)->c.CS[ρ i]?=some (some g)
 rows:∀r,r < j->∃x,c.rows[σ r]?=some x/\c0.rows[r]?=some x
mutual
def Rn.down(d:Dn k j ρ σ c w c' w'):∀{a b:AV} {v:Value},Rn k j ρ σ a b->Rp c w b v->Rp c' w' a v:=by
 intro a b v hn h;cases hn with
 | pl hp=>exact h.plain d.Zs hp
 | ptr hi=>cases h with | ptr h1=>exact .ptr (d.CS _ _ hi h1)
 | mp hi=>cases h with | mp h1=>exact .mp (d.CS _ _ hi h1)
 | ID hi=>cases h with | ID hn h1=>exact .ID hn (d.CS _ _ hi h1)
 | @row r sz n cs hr hp =>
   obtain⟨x,hx,vC⟩:=d.rows r hr;have hl:=(List.getElem?_eq_some_iff.1 vC).1;cases h with
   | Jc h0=>exact .Jc ⟨h0.1,hl⟩
   | KM hn hc ho =>
     refine .KM hn (hc.plain d.Zs hp) ⟨ho.1,ho.2.1,hl,λe=>ho.2.2.2.1 ?_,λg' n' BJ M7 e=>ho.2.2.2.2 g' n' BJ M7 ?_⟩;rw[hx,<- vC];exact e;rw[hx,<- vC];exact e
 | agg h1=>cases h with | agg h2=>exact .agg (T1.down d h1 h2)
 | Dk h1=>cases h with | Dk h2=>exact .Dk (T1.down d h1 h2)
 | fn h1 h2=>cases h with | fn h3 h4=>exact .fn (T1.down d h1 h3) (T1.down d h2 h4)
def T1.down(d:Dn k j ρ σ c w c' w'):∀{a b:List AV} {v:List Value},T1 k j ρ σ a b->CG c w b v->CG c' w' a v:=by
 intro a b v hn h;cases hn with
 | nil=>cases h;exact .nil
 | cons h1 t=>cases h with | cons h2 t2=>exact .cons (Rn.down d h1 h2) (T1.down d t t2)
end
mutual
def Rn.up(d:Up k j ρ σ c w c' w'):∀{a b:AV} {v:Value},Rn k j ρ σ a b->Rp c w a v->Rp c' w' b v:=by
 intro a b v hn h;cases hn with
 | pl hp=>exact h.plain d.Zs hp
 | ptr hi=>cases h with | ptr h1=>exact .ptr (d.CS _ _ hi h1)
 | mp hi=>cases h with | mp h1=>exact .mp (d.CS _ _ hi h1)
 | ID hi=>cases h with | ID hn h1=>exact .ID hn (d.CS _ _ hi h1)
 | @row r sz n cs hr hp =>
   obtain⟨x,hx,vC⟩:=d.rows r hr;have hl:=(List.getElem?_eq_some_iff.1 hx).1;cases h with
   | Jc h0=>exact .Jc ⟨h0.1,hl⟩
   | KM hn hc ho =>
     refine .KM hn (hc.plain d.Zs hp) ⟨ho.1,ho.2.1,hl,λe=>ho.2.2.2.1 ?_,λg' n' BJ M7 e=>ho.2.2.2.2 g' n' BJ M7 ?_⟩;rw[vC,<- hx];exact e;rw[vC,<- hx];exact e
 | agg h1=>cases h with | agg h2=>exact .agg (T1.up d h1 h2)
 | Dk h1=>cases h with | Dk h2=>exact .Dk (T1.up d h1 h2)
 | fn h1 h2=>cases h with | fn h3 h4=>exact .fn (T1.up d h1 h3) (T1.up d h2 h4)
def T1.up(d:Up k j ρ σ c w c' w'):∀{a b:List AV} {v:List Value},T1 k j ρ σ a b->CG c w a v->CG c' w' b v:=by
 intro a b v hn h;cases hn with
 | nil=>cases h;exact .nil
 | cons h1 t=>cases h with | cons h2 t2=>exact .cons (Rn.up d h1 h2) (T1.up d t t2)
end
def Ki.plain(hv:∀g i v,LD c w g i v->LD c' w' g i v):∀{es:List (Value×AV×Nat)} {fs:List MapEntry},(∀e∈es,AI.plain e.2.1=true)->Ki c w es fs->Ki c' w' es fs:=by
 intro es
 induction es with
 | nil=>intro fs _ h;cases h;exact .nil
 | cons e es ih =>
   intro fs hp h;cases h with | cons h1 t=>exact .cons (h1.plain hv (hp _ List.mem_cons_self)) (ih (λx hx=>hp x (List.mem_cons_of_mem _ hx)) t)
def tN.down(d:Dn k j ρ σ c w c' w'){a b:AL}{o:Obj}(hn:tN k j ρ σ a b)(h:E6 c w b o):E6 c' w' a o:=by
 cases hn with
 | cells h1=>cases h with | Hc ext h2=>exact .Hc ext (T1.down d h1 h2)
 | map hp=>cases h with | map h2=>exact .map (h2.plain d.Zs hp)
def tN.up(d:Up k j ρ σ c w c' w'){a b:AL}{o:Obj}(hn:tN k j ρ σ a b)(h:E6 c w a o):E6 c' w' b o:=by
 cases hn with
 | cells h1=>cases h with | Hc ext h2=>exact .Hc ext (T1.up d h1 h2)
 | map hp=>cases h with | map h2=>exact .map (h2.plain d.Zs hp)
end
structure Upd(k j:Nat)(ρ σ:Nat->Nat)(h2:List (Nat×AL))(F2:List (Nat×Nat))(s s2:AS):Prop where
 nx:s2.nx=s.nx
 nr:s2.nr=s.nr
 desc:∀n,Je s.h n->Je s2.h n
 get:∀id b,s2.get id=some b->(∃i b0,i < k/\id=ρ i/\look i h2=some b0/\tN k j ρ σ b0 b)\/((∀i,i < k->id≠ρ i)/\s.get id=some b)
 tok:∀q n,D0 q s2.F=some n->(∃r,r < j/\q=σ r/\D0 r F2=some n)\/((∀r,r < j->q≠σ r)/\D0 q s.F=some n)
def RnR(k j:Nat)(ρ σ:Nat->Nat):CR->CR->Prop
 | .ret v,.ret v'=>Rn k j ρ σ v v'
 | .IL v,.IL v'=>Rn k j ρ σ v v'
 | _,_=>False
def aiJ{P:Program}{G:A6}(hG:∀g cs,G g=some cs->BA cs=true){f:FuncId}{args Xk:List AV}{r r':CR}{hm h2:List (Nat×AL)}{k j:Nat}{Fm F2:List (Nat×Nat)}(h:Sound P G (.call f args ⟨hm,k,Fm,j⟩ r ⟨h2,k,F2,j⟩))(hd:Je hm k)
   (ρ σ:Nat->Nat) (aoL:∀i i',i < k->i' < k->ρ i=ρ i'->i=i') (ahA:∀i i',i < j->i' < j->σ i=σ i'->i=i') (Gp:T1 k j ρ σ args Xk)
   {s s2:AS} (OV:∀i b,i < k->look i hm=some b->∃b',s.get (ρ i)=some b'/\tN k j ρ σ b b')
   (RA:∀cx w vs,St G cx w s->CG cx w Xk vs->∀i,i < k->∃g,cx.CS[ρ i]?=some (some g))
   (alM:∀q n,q < j->D0 q Fm=some n->D0 (σ q) s.F=some n) (alL:∀q,q < j->∃n,D0 q Fm=some n) (hFm:∀q n,D0 q Fm=some n->q < j)
   (hr:RnR k j ρ σ r r')
   (hu:Upd k j ρ σ h2 F2 s s2):Sound P G (.call f Xk s r' s2):=by
 intro cx w vs hs ha;have hph:=RA cx w vs hs ha
 have hg:∀i:Nat,∃g,i < k->cx.CS[ρ i]?=some (some g):=λi=>by
   by_cases hi:i < k;obtain⟨g,hg⟩:=hph i hi;exact⟨g,λ_=>hg⟩;exact⟨0,λh=>absurd h hi⟩
 obtain⟨gs,hgs⟩:=Classical.axiomOfChoice hg
 have hrw:∀q:Nat,∃x,q < j->cx.rows[σ q]?=some x:=λq=>by
   by_cases hq:q < j;obtain⟨n,hn⟩:=alL q hq;rcases hs.IG _ _ (alM q n hq hn) with ⟨h1,_⟩ | ⟨g,cap,sz,h1⟩
   exact⟨_,λ_=>h1⟩;exact⟨_,λ_=>h1⟩;exact⟨.gone,λh=>absurd h hq⟩
 obtain⟨rw,hrw⟩:=Classical.axiomOfChoice hrw;have nH:∀i,i < k->some (gs i)∈cx.CS:=λi hi=>List.mem_of_getElem? (hgs i hi);have hgi:∀i i',i < k->i' < k->gs i=gs i'->i=i':=λi i' hi Pe e=>aoL i i' hi Pe (hs.nodup _ _ _ (hgs i hi) (by rw[e];exact hgs i' Pe));let K:Nat->Prop:=λq=>(∃i,i < k/\q=gs i)\/∃r n cap sz,r < j/\cx.rows[σ r]?=some (.QZ q n cap sz);let c0:Cx:=⟨0,(List.range k).map λi=>some (gs i),(List.range j).map rw,λq i=>¬K q/\cx.Zp q i⟩
 have VR:∀(i g:Nat),c0.CS[i]?=some (some g)↔i < k/\g=gs i:=by
   intro i g;show((List.range k).map λi=>some (gs i))[i]?=some (some g)↔_;rw[List.getElem?_map];by_cases hi:i < k;rw[List.getElem?_range hi];simp[hi,eq_comm];rw[List.getElem?_eq_none (by simp;omega)];simp[hi]
 have qO:∀g,some g∈c0.CS->∃i,i < k/\g=gs i:=by
   intro g XQ;obtain⟨i,hi,e⟩:=List.mem_map.1 XQ;exact⟨i,List.mem_range.1 hi,(Option.some.inj e).symm⟩
 have ZS:∀(q:Nat) x,c0.rows[q]?=some x->q < j/\cx.rows[σ q]?=some x:=by
   intro q x hx;have hx:((List.range j).map rw)[q]?=some x:=hx;have hl:=(List.getElem?_eq_some_iff.1 hx).1;simp at hl;rw[List.getElem?_map,List.getElem?_range hl] at hx;simp at hx;subst hx;exact⟨hl,hrw q hl⟩
 have nK:∀q,q < j->c0.rows[q]?=some (rw q):=by
   intro q hq;show((List.range j).map rw)[q]?=some (rw q);rw[List.getElem?_map,List.getElem?_range hq];rfl
 have aa2:c0.rows.length=j:=by show((List.range j).map rw).length=j;simp
 have Ij:∀g i x,LD cx w g i x->LD c0 w g i x:=by
   intro g i x hx;refine⟨hx.1,λGq=>?_,hx.2.2⟩;rcases Gq with Gq | ⟨r,n,cap,sz,hr,h1,h2⟩ | Gq
   obtain⟨i',Pe,rfl⟩:=qO g Gq;exact hx.2.1 (.inl (nH i' Pe));exact hx.2.1 (.inr (.inl ⟨σ r,n,cap,sz,(ZS _ _ hr).2,h1,h2⟩));exact hx.2.1 Gq.2
 have hdn:Dn k j ρ σ cx w c0 w:=⟨Ij,λi g hi XQ=>by
   rw[VR];rw[hgs i hi] at XQ;cases XQ;exact⟨hi,rfl⟩,λq hq=>⟨rw q,hrw q hq,nK q hq⟩⟩
 have F4:St G c0 w ⟨hm,k,Fm,j⟩:=by
   refine⟨by simp[c0],hd,λi i' g h1 h2=>?_,λg _=>Nat.zero_le _,λid g b h1 h2=>?_,aa2.symm,λq g n cap sz hq=>?_,λq n hq=>?_,λg XQ=>?_,(λq i hb=>hs.TD hb.2),λq q' g n cap sz n' BJ M7 h1 h2=>?_,(λg cs XQ=>A9.plain Ij (hG g cs XQ) (hs.Mq g cs XQ)),Nat.zero_le _⟩;obtain⟨hi,e1⟩:=(VR i g).1 h1;obtain⟨Pe,e2⟩:=(VR i' g).1 h2;exact hgi i i' hi Pe (e1.symm.trans e2);obtain⟨hi,rfl⟩:=(VR id g).1 h1;obtain⟨b',Wf,hn⟩:=OV id b hi h2;obtain⟨o,ho,hb⟩:=hs.box (ρ id) (gs id) _ (hgs id hi) Wf;exact⟨o,ho,hn.down hdn hb⟩;obtain⟨hq1,Y1⟩:=ZS _ _ hq;obtain⟨_,_,a3,a4,a5⟩:=hs.row _ _ _ _ _ Y1;refine⟨λi hb=>hb.1 (.inr ⟨q,n,cap,sz,hq1,Y1⟩),Nat.zero_le _,λlS=>?_,a4,a5⟩;obtain⟨i,hi,rfl⟩:=qO g lS;exact a3 (nH i hi);have GI:=hFm q n hq;have:=hs.IG _ _ (alM q n GI hq);rw[hrw q GI] at this;rw[nK q GI];exact this;obtain⟨i,hi,rfl⟩:=qO g XQ;exact hs.Mw (nH i hi);obtain⟨a1,a2⟩:=ZS _ _ h1;obtain⟨b1,b2⟩:=ZS _ _ h2;exact ahA _ _ a1 b1 (hs.Io _ _ _ _ _ _ _ _ _ a2 b2)
 refine(h c0 w vs F4 (Gp.down hdn ha)).mono ?_;rintro e w' ⟨c',hx,Mr,iB⟩
 have qP:c'.CS=c0.CS:=by
   obtain⟨t,ht⟩:=hx.CS;have h1:c'.CS.length=k:=Mr.len.symm;have h2:c0.CS.length=k:=by simp[c0]
   rw[<- ht,List.length_append,h2] at h1;have:t=[]:=List.eq_nil_of_length_eq_zero (by omega);rw[<- ht,this,List.append_nil]
 have ai8:c'.rows.length=j:=Mr.Ix.symm;have aa3:∀q,q < j->∃y,c'.rows[q]?=some y:=λq hq=>⟨_,List.getElem?_eq_getElem (by rw[ai8];exact hq)⟩
 have hle:∀q y,q < j->c'.rows[q]?=some y->Kj (rw q) y:=by
   intro q y hq hy;obtain⟨x,h1,h2⟩:=hx.rows q y (by rw[aa2];exact hq) hy;rw[nK q hq] at h1;cases h1;exact h2
 let jV:List Rw:=(List.range cx.rows.length).map λq=>open Classical in if hq:∃r,r < j/\σ r=q then c'.rows.getD (Classical.choose hq) .gone else cx.rows.getD q .gone
 have aa4:jV.length=cx.rows.length:=by simp[jV]
 have Zb:∀r,r < j->jV[σ r]?=c'.rows[r]?:=by
   intro r hr;have hl:=(List.getElem?_eq_some_iff.1 (hrw r hr)).1;show((List.range cx.rows.length).map _)[σ r]?=_;rw[List.getElem?_map,List.getElem?_range hl];simp only[Option.map_some];have hq:∃r',r' < j/\σ r'=σ r:=⟨r,hr,rfl⟩;rw[dif_pos hq];have hc:=Classical.choose_spec hq;have:Classical.choose hq=r:=ahA _ _ hc.1 hr hc.2;rw[this];obtain⟨y,hy⟩:=aa3 r hr;rw[List.getD_eq_getElem?_getD,hy];rfl
 have cK:∀q,(∀r,r < j->q≠σ r)->jV[q]?=cx.rows[q]?:=by
   intro q hq;by_cases hl:q < cx.rows.length;show((List.range cx.rows.length).map _)[q]?=_;rw[List.getElem?_map,List.getElem?_range hl];simp only[Option.map_some];rw[dif_neg (by rintro⟨r,h1,h2⟩;exact hq r h1 h2.symm),List.getD_eq_getElem?_getD,List.getElem?_eq_getElem hl];rfl;rw[List.getElem?_eq_none (by omega),List.getElem?_eq_none (by omega)]
 have SO:∀q:Nat,(∃r,r < j/\q=σ r)\/∀r,r < j->q≠σ r:=λq=>by
   by_cases hq:∃r,r < j/\q=σ r;exact .inl hq;exact .inr λr h1 h2=>hq ⟨r,h1,h2⟩
 have Lu:∀r g n cap sz,r < j->c'.rows[r]?=some (.QZ g n cap sz)->(∃r0 n0 Rq kE,r0 < j/\cx.rows[σ r0]?=some (.QZ g n0 Rq kE))\/w.heap.size<=g:=by
   intro r g n cap sz hr hy;rcases hx.Zl _ _ _ _ _ hy with ⟨r0,n0,Rq,kE,h1⟩ | h1
   obtain⟨h2,h3⟩:=ZS _ _ h1;exact .inl ⟨r0,n0,Rq,kE,h2,h3⟩;exact .inr h1
 have N8:=hx.below
 have Te:Ra w w' K:=⟨N8.os,N8.tape,N8.output,N8.size,λq hq Is=>hx.GM q hq (λlS=>Is (.inl (qO q lS))) (λr n cap sz hr=>Is (by
   obtain⟨h1,h2⟩:=ZS _ _ hr;exact .inr ⟨r,n,cap,sz,h1,h2⟩))⟩
 have hKb:∀q,K q->cx.base<=q:=by
   rintro q (⟨i,hi,rfl⟩ | ⟨r,n,cap,sz,hr,h1⟩);exact hs.low _ (nH i hi);exact(hs.row _ _ _ _ _ h1).2.1
 let c1:Cx:=⟨cx.base,cx.CS,jV,cx.bad⟩
 have iI:∀g i x,LD c' w' g i x->LD c1 w' g i x:=by
   intro g i x hv;refine⟨hv.1,λGq=>hv.2.1 ?_,hv.2.2⟩;have KF:¬K g->cx.Zp g i->c'.Zp g i:=λh1 h2=>.inr (.inr (by rw[hx.bad];exact⟨h1,h2⟩));rcases Gq with Gq | ⟨q,n,cap,sz,hq,h1,h2⟩ | Gq
   by_cases hK:K g;rcases hK with ⟨i',Pe,rfl⟩ | ⟨r,n,cap,sz,hr,h1⟩
   refine .inl ?_;rw[qP];exact List.mem_of_getElem? ((VR i' (gs i')).2 ⟨Pe,rfl⟩);exact absurd Gq (hs.row _ _ _ _ _ h1).2.2.1;exact KF hK (.inl Gq);rcases SO q with ⟨r,hr,rfl⟩ | lU
   simp only[c1] at hq;rw[Zb r hr] at hq;exact .inr (.inl ⟨r,n,cap,sz,hq,h1,h2⟩);simp only[c1] at hq;rw[cK q lU] at hq;refine KF ?_ (.inr (.inl ⟨q,n,cap,sz,hq,h1,h2⟩));rintro(⟨i',Pe,rfl⟩ | ⟨r,n',BJ,M7,hr,h3⟩);exact(hs.row _ _ _ _ _ hq).2.2.1 (nH i' Pe);exact lU r hr (hs.Io _ _ _ _ _ _ _ _ _ hq h3);by_cases hK:K g;rcases hK with ⟨i',Pe,rfl⟩ | ⟨r,n,cap,sz,hr,h1⟩
   refine .inl ?_;rw[qP];exact List.mem_of_getElem? ((VR i' (gs i')).2 ⟨Pe,rfl⟩);exact absurd Gq ((hs.row _ _ _ _ _ h1).1 i);exact KF hK (.inr (.inr Gq))
 have ext:Ext cx w c1 w':=by
   refine⟨List.prefix_refl _,by simp[c1,aa4],λq y hq hy=>?_,λg i x hv=>iI g i x (hx.Zs g i x (Ij g i x hv)),Te.below hs.PY hKb,rfl,rfl,λ_ h=>.inl h,λq g n cap sz hq=>?_,λq hq hp hr=>Te.block q hq ?_⟩;rcases SO q with ⟨r,hr,rfl⟩ | lU
   simp only[c1] at hy;rw[Zb r hr] at hy;exact⟨rw r,hrw r hr,hle r y hr hy⟩;simp only[c1] at hy;rw[cK q lU] at hy;exact⟨y,hy,Kj.refl y⟩;rcases SO q with ⟨r,hr,rfl⟩ | lU
   simp only[c1] at hq;rw[Zb r hr] at hq;rcases Lu _ _ _ _ _ hr hq with ⟨r0,n0,Rq,kE,_,h1⟩ | h1
   exact .inl ⟨_,_,_,_,h1⟩;exact .inr h1;simp only[c1] at hq;rw[cK q lU] at hq;exact .inl ⟨_,_,_,_,hq⟩;rintro(⟨i',Pe,rfl⟩ | ⟨r,n',BJ,M7,WH,h3⟩);exact hp (nH i' Pe);exact hr _ _ _ _ h3
 have hup:Up k j ρ σ c' w' c1 w':=⟨iI,λi g hi XQ=>by
   rw[qP,VR] at XQ;obtain⟨_,rfl⟩:=XQ;exact hgs i hi,λq hq=>by
   obtain⟨y,hy⟩:=aa3 q hq;exact⟨y,by simp only[c1];rw[Zb q hq];exact hy,hy⟩⟩
 have st1:St G c1 w' s2:=by
   refine⟨by rw[hu.nx,hs.len],by rw[hu.nx];exact hu.desc _ hs.desc,hs.nodup,hs.low,λid g b h1 h2=>?_,by rw[hu.nr,hs.Ix];exact aa4.symm,λq g n cap sz hq=>?_,λq n hq=>?_,λg XQ=>Nat.lt_of_lt_of_le (hs.Md g XQ) Te.size,λg i hb=>Nat.lt_of_lt_of_le (hs.Ml g i hb) Te.size,λq q' g n cap sz n' BJ M7 h1 h2=>?_,λg cs XQ=>(hs.Mq g cs XQ).mono ext,Nat.le_trans hs.PY Te.size⟩;rcases hu.get id b h2 with ⟨i,b0,hi,rfl,hb0,hn⟩ | ⟨Is,h3⟩
   obtain⟨o,ho,hb⟩:=Mr.box i (gs i) b0 (by rw[qP];exact(VR i (gs i)).2 ⟨hi,rfl⟩) hb0;have h1:cx.CS[ρ i]?=some (some g):=h1;rw[hgs i hi] at h1;cases h1;exact⟨o,ho,hn.up hup hb⟩;obtain⟨o,ho,hb⟩:=hs.box id g b h1 h3;refine⟨o,?_,hb.mono ext⟩;rw[Te.block g (Array.getElem?_eq_some_iff.1 ho).1 ?_];exact ho;rintro(⟨i',Pe,rfl⟩ | ⟨r,n',BJ,M7,WH,h4⟩);exact Is i' Pe (hs.nodup _ _ _ h1 (hgs i' Pe));exact(hs.row _ _ _ _ _ h4).2.2.1 (List.mem_of_getElem? h1);simp only[c1] at hq ⊢;rcases SO q with ⟨r,WH,rfl⟩ | lU
   rw[Zb r WH] at hq;obtain⟨a1,a2,a3,a4,a5⟩:=Mr.row _ _ _ _ _ hq;rcases Lu _ _ _ _ _ WH hq with ⟨r0,n0,Rq,kE,_,h4⟩ | h4
   obtain⟨b1,b2,b3,_⟩:=hs.row _ _ _ _ _ h4;exact⟨b1,b2,b3,a4,a5⟩;refine⟨λi hb=>?_,Nat.le_trans hs.PY h4,λlS=>?_,a4,a5⟩;have:=hs.Ml _ _ hb;omega;have:=hs.Mw lS;omega;rw[cK q lU] at hq;obtain⟨a1,a2,a3,a4,vs',T,a5,a6⟩:=hs.row _ _ _ _ _ hq;refine⟨a1,a2,a3,a4,vs',T,?_,a6⟩;rw[Te.block g (Array.getElem?_eq_some_iff.1 a5).1 ?_];exact a5;rintro(⟨i',Pe,rfl⟩ | ⟨r,n',BJ,M7,WH,h4⟩);exact a3 (nH i' Pe);exact lU r WH (hs.Io _ _ _ _ _ _ _ _ _ hq h4);simp only[c1];rcases hu.tok q n hq with ⟨r,WH,rfl,h3⟩ | ⟨lU,h3⟩
   rw[Zb r WH];exact Mr.IG r n h3;rw[cK q lU];exact hs.IG q n h3;simp only[c1] at h1 h2
   have key:∀r q,r < j->(∀r',r' < j->q≠σ r')->∀n cap sz n' BJ M7,c'.rows[r]?=some (.QZ g n cap sz)->cx.rows[q]?=some (.QZ g n' BJ M7)->False:=by
     intro r q WH lU n cap sz n' BJ M7 e1 e2;rcases Lu _ _ _ _ _ WH e1 with ⟨r0,n0,Rq,kE,qR,h4⟩ | h4
     exact lU r0 qR (hs.Io _ _ _ _ _ _ _ _ _ e2 h4);have:=hs.Mx e2;omega
   rcases SO q with ⟨r,WH,rfl⟩ | hq1<;>rcases SO q' with ⟨r2,Y2,rfl⟩ | Y1
   rw[Zb r WH] at h1;rw[Zb r2 Y2] at h2;rw[Mr.Io _ _ _ _ _ _ _ _ _ h1 h2];rw[Zb r WH] at h1;rw[cK q' Y1] at h2;exact(key r q' WH Y1 _ _ _ _ _ _ h1 h2).elim;rw[cK q hq1] at h1;rw[Zb r2 Y2] at h2;exact(key r2 q Y2 hq1 _ _ _ _ _ _ h2 h1).elim;rw[cK q hq1] at h1;rw[cK q' Y1] at h2;exact hs.Io _ _ _ _ _ _ _ _ _ h1 h2
 refine⟨c1,ext,st1,?_⟩;cases r with
 | ret v =>
   cases r' with
   | ret v' =>
     obtain⟨u,rfl,hu'⟩:=iB;exact⟨u,rfl,Rn.up hup hr hu'⟩
   | IL v'=>exact hr.elim
 | IL v =>
   cases r' with
   | ret v'=>exact hr.elim
   | IL v' =>
     obtain⟨u,rfl,hu'⟩:=iB;exact⟨u,rfl,Rn.up hup hr hu'⟩
end AI
namespace AI
open Go Go.RowKit
def IC:List AL->Nat->List (Nat×AL)->List (Nat×AL)
 | [],_,acc=>acc
 | b::l,n,acc=>IC l (n+1) ((n,b)::acc)
def o0:List Nat->Nat->List (Nat×Nat)
 | [],_=>[]
 | k::l,n=>(n,k)::o0 l (n+1)
def nY{M:List AL}:∀{n:Nat} {acc:List (Nat×AL)} {i:Nat} {b:AL},Je acc n->look i (IC M n acc)=some b->(n<=i/\M[i - n]?=some b)\/look i acc=some b:=by
 induction M with
 | nil=>intro n acc i b _ h;exact .inr h
 | cons x M ih =>
   intro n acc i b hd h;rcases ih (n:=n+1) (acc:=(n,x)::acc) ⟨Nat.lt_succ_self n,hd⟩ h with ⟨h1,h2⟩ | h1
   refine .inl ⟨by omega,?_⟩;rw[show i - n=(i - (n+1))+1 by omega];exact h2;simp only[look] at h1;split at h1;rename_i hb;have:=beq_true hb;subst this;cases h1;exact .inl ⟨Nat.le_refl _,by simp⟩;exact .inr h1
def mL{M:List AL}:∀{n:Nat} {acc:List (Nat×AL)},Je acc n->Je (IC M n acc) (n+M.length):=by
 induction M with
 | nil=>intro n acc h;exact h
 | cons x M ih =>
   intro n acc h;have:=ih (n:=n+1) (acc:=(n,x)::acc) ⟨Nat.lt_succ_self n,h⟩;rw[List.length_cons,show n+(M.length+1)=n+1+M.length by omega];exact this
def Vm{T:List Nat}:∀{n r k:Nat},D0 r (o0 T n)=some k->n<=r/\T[r - n]?=some k:=by
 induction T with
 | nil=>intro n r k h;cases h
 | cons x T ih =>
   intro n r k h;simp only[o0,D0] at h;split at h;rename_i hb;have:=beq_true hb;subst this;cases h;exact⟨Nat.le_refl _,by simp⟩;obtain⟨h1,h2⟩:=ih h;refine⟨by omega,?_⟩;rw[show r - n=(r - (n+1))+1 by omega];exact h2
def aJ{T:List Nat}:∀{n r:Nat},n<=r->r - n < T.length->∃k,D0 r (o0 T n)=some k:=by
 induction T with
 | nil=>intro n r _ h;simp at h
 | cons x T ih =>
   intro n r h1 h2;simp only[o0,D0];split;exact⟨_,rfl⟩;rename_i hb;have:=beq_false hb;exact ih (by omega) (by simp at h2;omega)
inductive Xa(k j:Nat)(ρ σ:Nat->Nat):List AL->List (Nat×AL)->Prop where
 | nil:Xa k j ρ σ [] []
 | cons {b b':AL} {i:Nat} {l:List AL} {m:List (Nat×AL)} (h:tN k j ρ σ b b') (t:Xa k j ρ σ l m):Xa k j ρ σ (b::l) ((i,b')::m)
def Xa.len{k j:Nat}{ρ σ:Nat->Nat}{l:List AL}{m:List (Nat×AL)}(h:Xa k j ρ σ l m):l.length=m.length:=by
 induction h with
 | nil=>rfl
 | cons _ _ ih=>simp[ih]
def Xa.get{k j:Nat}{ρ σ:Nat->Nat}{l:List AL}{m:List (Nat×AL)}(h:Xa k j ρ σ l m):∀{i:Nat} {b:AL},l[i]?=some b->∃e,m[i]?=some e/\tN k j ρ σ b e.2:=by
 induction h with
 | nil=>intro i b hb;simp at hb
 | cons h _ ih =>
   intro i b hb;cases i with
   | zero=>simp at hb;subst hb;exact⟨_,rfl,h⟩
   | succ i=>exact ih (by simpa using hb)
def Xa.aos{k j:Nat}{ρ σ:Nat->Nat}{l:List AL}{m:List (Nat×AL)}(h:Xa k j ρ σ l m):∀{i:Nat} {e:Nat×AL},m[i]?=some e->∃b,l[i]?=some b/\tN k j ρ σ b e.2:=by
 induction h with
 | nil=>intro i b hb;simp at hb
 | cons h _ ih =>
   intro i b hb;cases i with
   | zero=>simp at hb;subst hb;exact⟨_,rfl,h⟩
   | succ i=>exact ih (by simpa using hb)
def kI:∀(l:List (Nat×AL)) (s:AS) (id:Nat) (b:AL),(s.VB l).get id=some b->(∃e∈l,e.1=id/\e.2=b)\/((∀e∈l,e.1≠id)/\s.get id=some b)
 | [],s,id,b,h=>.inr ⟨(λe he=>by cases he),h⟩
 | e::l,s,id,b,h=>by
   rcases kI l (s.put e.1 e.2) id b h with ⟨x,hx,h1⟩ | ⟨h1,h2⟩
   exact .inl ⟨x,List.mem_cons_of_mem _ hx,h1⟩;rcases YL h2 with ⟨h3,h4⟩ | ⟨h3,h4⟩
   exact .inl ⟨e,List.mem_cons_self,h3.symm,h4.symm⟩;refine .inr ⟨λx hx=>?_,h4⟩;rcases List.mem_cons.1 hx with rfl | hx
   exact λe=>h3 e.symm;exact h1 x hx
def aN:∀(l:List (Nat×AL)) (s:AS),(s.VB l).nx=s.nx/\(s.VB l).nr=s.nr/\(s.VB l).F=s.F/\∀n,Je s.h n->Je (s.VB l).h n
 | [],s=>⟨rfl,rfl,rfl,λ_ h=>h⟩
 | e::l,s=>by
   obtain⟨h1,h2,h3,h4⟩:=aN l (s.put e.1 e.2);exact⟨h1,h2,h3,λn h=>h4 n (YK h)⟩
def ZI:∀(l:List (Nat×Nat)) (s:AS) (q n:Nat),D0 q (s.SN l).F=some n->(∃e∈l,e.1=q/\e.2=n)\/((∀e∈l,e.1≠q)/\D0 q s.F=some n)
 | [],s,q,n,h=>.inr ⟨(λe he=>by cases he),h⟩
 | e::l,s,q,n,h=>by
   rcases ZI l _ q n h with ⟨x,hx,h1⟩ | ⟨h1,h2⟩
   exact .inl ⟨x,List.mem_cons_of_mem _ hx,h1⟩;rcases aE h2 with ⟨h3,h4,_⟩ | ⟨h3,h4⟩
   exact .inl ⟨e,List.mem_cons_self,h3.symm,h4.symm⟩;refine .inr ⟨λx hx=>?_,h4⟩;rcases List.mem_cons.1 hx with rfl | hx
   exact λe=>h3 e.symm;exact h1 x hx
def XJ:∀(l:List (Nat×Nat)) (s:AS),(s.SN l).nx=s.nx/\(s.SN l).nr=s.nr/\(s.SN l).h=s.h
 | [],s=>⟨rfl,rfl,rfl⟩
 | e::l,s=>XJ l _
def XI:∀{l:List (Nat×AL)} {s:AS},XH s l=N6 l->∀{i:Nat} {e:Nat×AL},l[i]?=some e->s.get e.1=some e.2
 | [],s,_,i,e,he=>by simp at he
 | x::l,s,h,i,e,he=>by
   simp only[XH,N6,List.cons.injEq] at h;cases i with
   | zero=>simp at he;subst he;exact h.1
   | succ i=>exact XI h.2 (by simpa using he)
def gY:∀{l:List (Nat×Nat)} {F:List (Nat×Nat)},ZE F l=OH l->∀{i:Nat} {e:Nat×Nat},l[i]?=some e->D0 e.1 F=some e.2
 | [],s,_,i,e,he=>by simp at he
 | x::l,s,h,i,e,he=>by
   simp only[ZE,OH,List.cons.injEq] at h;cases i with
   | zero=>simp at he;subst he;exact h.1
   | succ i=>exact gY h.2 (by simpa using he)
mutual
inductive Occ(id:Nat):AV->Prop where
 | ptr {off:Nat}:Occ id (.ptr id off)
 | mp:Occ id (.mp id)
 | ID {off n:Nat}:Occ id (.ID id off n)
 | agg {cs:List AV} (h:TY id cs):Occ id (.agg cs)
 | fn1 {f:Fn} {a b:List AV} (h:TY id a):Occ id (.fn f a b)
 | fn2 {f:Fn} {a b:List AV} (h:TY id b):Occ id (.fn f a b)
inductive TY(id:Nat):List AV->Prop where
 | here {a:AV} {l:List AV} (h:Occ id a):TY id (a::l)
 | there {a:AV} {l:List AV} (h:TY id l):TY id (a::l)
end
mutual
def Occ.CS{c:Cx}{w:World}{id:Nat}:∀{a:AV} {v:Value},Occ id a->Rp c w a v->∃g,c.CS[id]?=some (some g):=by
 intro a v ho h;cases ho with
 | ptr=>cases h with | ptr h1=>exact⟨_,h1⟩
 | mp=>cases h with | mp h1=>exact⟨_,h1⟩
 | ID=>cases h with | ID hn h1=>exact⟨_,h1⟩
 | agg h1=>cases h with | agg h2=>exact TY.CS h1 h2
 | fn1 h1=>cases h with | fn h2 h3=>exact TY.CS h1 h2
 | fn2 h1=>cases h with | fn h2 h3=>exact TY.CS h1 h3
def TY.CS{c:Cx}{w:World}{id:Nat}:∀{a:List AV} {v:List Value},TY id a->CG c w a v->∃g,c.CS[id]?=some (some g):=by
 intro a v ho h;cases ho with
 | here h1=>cases h with | cons h2 _=>exact Occ.CS h1 h2
 | there h1=>cases h with | cons _ h2=>exact TY.CS h1 h2
end
inductive Rch(args:List AV)(pre:List (Nat×AL)):Nat->Prop where
 | arg {id:Nat} (h:TY id args):Rch args pre id
 | box {i id p:Nat} {cs:List AV} (h:Rch args pre i) (hp:pre[p]?=some (i,.cells cs)) (ho:TY id cs):Rch args pre id
def Rch.CS{G:A6}{args:List AV}{pre:List (Nat×AL)}{s:AS}(hb:XH s pre=N6 pre){cx:Cx}{w:World}{vs:List Value}(hs:St G cx w s)(ha:CG cx w args vs){id:Nat}(h:Rch args pre id):∃g,cx.CS[id]?=some (some g):=by
 induction h with
 | arg h=>exact h.CS ha
 | box h hp ho ih =>
   obtain⟨g,hg⟩:=ih;obtain⟨o,_,u4⟩:=hs.box _ g _ hg (XI hb hp);cases u4 with
   | Hc ext hr=>exact ho.CS hr
def KV{β:Type}(l:List (Nat×β))(i:Nat):Nat:=match l[i]? with
 | some e=>e.1
 | none=>0
def KW{β:Type}{l:List (Nat×β)}{i:Nat}{e:Nat×β}(h:l[i]?=some e):KV l i=e.1:=by unfold KV;rw[h]
def keys{β:Type}(l:List (Nat×β)):List Nat:=l.map (·.1)
def ZU{β:Type}{l:List (Nat×β)}(h:(keys l).Nodup){i i':Nat}(hi:i < l.length)(Pe:i' < l.length)(e:KV l i=KV l i'):i=i':=by
 have h1:(keys l)[i]?=some (KV l i):=by
   unfold keys;rw[List.getElem?_map,List.getElem?_eq_getElem hi,KW (List.getElem?_eq_getElem hi)];rfl
 have h2:(keys l)[i']?=some (KV l i'):=by
   unfold keys;rw[List.getElem?_map,List.getElem?_eq_getElem Pe,KW (List.getElem?_eq_getElem Pe)];rfl
 rw[<- e] at h2;exact vQ h h1 h2
def Qd{β β':Type}{l:List (Nat×β)}{m:List (Nat×β')}(h:keys l=keys m)(i:Nat):KV l i=KV m i:=by
 have h1:=congrArg (λx=>x[i]?) h;unfold keys at h1;simp only[List.getElem?_map] at h1;unfold KV;cases hl:l[i]?<;>cases hm:m[i]?<;>rw[hl,hm] at h1<;>simp at h1<;>simp[h1]
def Hf{P:Program}{G:A6}(hG:∀g cs,G g=some cs->BA cs=true){f:FuncId}{args Xk:List AV}{r r':CR}{M M2:List AL}{T T2:List Nat}(pre QD:List (Nat×AL))(tp tu:List (Nat×Nat)){k j:Nat}
   (h:Sound P G (.call f args ⟨IC M 0 [],k,o0 T 0,j⟩ r ⟨IC M2 0 [],k,o0 T2 0,j⟩))
   (hk:M.length=k) (hj:T.length=j) (vA:T2.length=j)
   (hku:keys QD=keys pre) (hkt:keys tu=keys tp) (Pq:(keys pre).Nodup) (Pu:(keys tp).Nodup)
   (htp:tp.map (·.2)=T) (htu:tu.map (·.2)=T2)
   (hb:Xa k j (KV pre) (KV tp) M pre) (CF:Xa k j (KV pre) (KV tp) M2 QD)
   (Gp:T1 k j (KV pre) (KV tp) args Xk)
   (hr:RnR k j (KV pre) (KV tp) r r')
   (aoV:∀e∈pre,Rch Xk pre e.1):Cd.ok P G (.ET f Xk r' pre tp QD tu):=by
 intro s hgb hgf;have hpl:pre.length=k:=by rw[<- hb.len,hk]
 have htl:tp.length=j:=by rw[<- hj,<- htp,List.length_map]
 have hul:QD.length=k:=by
   have:=congrArg List.length hku;simp only[keys,List.length_map] at this;omega
 have aqo:tu.length=j:=by rw[<- vA,<- htu,List.length_map]
 refine aiJ hG h (by have:=mL (M:=M) (n:=0) (acc:=[]) trivial;rw[Nat.zero_add,hk] at this;exact this) (KV pre) (KV tp) (λi i' hi Pe e=>ZU Pq (by omega) (by omega) e) (λi i' hi Pe e=>ZU Pu (by omega) (by omega) e) Gp (s:=s) (λi b hi hl=>?_) (λcx w vs hs ha i hi=>?_) (λq n hq hl=>?_) (λq hq=>?_) (λq n hl=>?_) hr ?_;rcases nY (acc:=[]) trivial hl with ⟨_,h1⟩ | h1
 rw[Nat.sub_zero] at h1;obtain⟨e,he,hn⟩:=hb.get h1;exact⟨e.2,by rw[KW he];exact XI hgb he,hn⟩;cases h1;have he:pre[i]?=some pre[i]:=List.getElem?_eq_getElem (by omega);rw[KW he];exact(aoV _ (List.mem_of_getElem? he)).CS hgb hs ha
 . obtain⟨_,h1⟩:=Vm hl
   rw[Nat.sub_zero,<- htp,List.getElem?_map] at h1;cases he:tp[q]? with
   | none=>rw[he] at h1;cases h1
   | some e =>
     rw[he] at h1;simp at h1;rw[KW he,<- h1];exact gY hgf he
 exact aJ (Nat.zero_le _) (by omega);obtain⟨_,h1⟩:=Vm hl;have:=(List.getElem?_eq_some_iff.1 h1).1;omega
 . obtain⟨a1,a2,a3,a4⟩:=aN QD s
   obtain⟨b1,b2,b3⟩:=XJ tu (s.VB QD);refine⟨by rw[b1,a1],by rw[b2,a2],λn hd=>by rw[b3];exact a4 n hd,λid b hg=>?_,λq n hq=>?_⟩
   . have hg:(s.VB QD).get id=some b:=by
       unfold AS.get at hg ⊢;rw[b3] at hg;exact hg
     rcases kI QD s id b hg with ⟨e,he,rfl,rfl⟩ | ⟨h1,h2⟩
     . obtain⟨i,hi⟩:=List.mem_iff_getElem?.1 he
       have hil:=(List.getElem?_eq_some_iff.1 hi).1;obtain⟨b0,hb0,hn⟩:=CF.aos hi;refine .inl ⟨i,b0,by omega,by rw[<- Qd hku,KW hi],?_,hn⟩
       have:∀(M:List AL) (n:Nat) (acc:List (Nat×AL)) (i:Nat) (b:AL),M[i]?=some b->(∀e∈acc,e.1 < n)->look (n+i) (IC M n acc)=some b:=by
         intro M
         induction M with
         | nil=>intro n acc i b h;simp at h
         | cons x M ih =>
           intro n acc i b h hU;cases i with
           | succ i =>
             have:=ih (n+1) ((n,x)::acc) i b (by simpa using h) (λe he=>by
               rcases List.mem_cons.1 he with rfl | he
               exact Nat.lt_succ_self _;have:=hU e he;omega)
             rw[show n+(i+1)=n+1+i by omega];exact this
           | zero =>
             simp at h;subst h;simp only[IC,Nat.add_zero]
             have alJ:∀(M:List AL) (n':Nat) (acc:List (Nat×AL)),n < n'->look n (IC M n' acc)=look n acc:=by
               intro M
               induction M with
               | nil=>intro n' acc _;rfl
               | cons y M vE =>
                 intro n' acc GI;simp only[IC];rw[vE (n'+1) _ (by omega)];simp only[look]
                 have:Nat.beq n' n=false:=by
                   cases hq:Nat.beq n' n with
                   | false=>rfl
                   | true=>have:=beq_true hq;omega
                 rw[this]
             rw[alJ M (n+1) _ (by omega)];simp only[look];rw[show Nat.beq n n=true from Nat.beq_refl n]
       have:=this M2 0 [] i b0 hb0 (λe he=>by cases he);rwa[Nat.zero_add] at this
     refine .inr ⟨λi hi e=>?_,h2⟩;have he:QD[i]?=some QD[i]:=List.getElem?_eq_getElem (by omega);refine h1 _ (List.mem_of_getElem? he) ?_;rw[e,<- Qd hku,KW he]
   rcases ZI tu _ q n hq with ⟨e,he,rfl,rfl⟩ | ⟨h1,h2⟩
   obtain⟨i,hi⟩:=List.mem_iff_getElem?.1 he;have hil:=(List.getElem?_eq_some_iff.1 hi).1;refine .inl ⟨i,by omega,by rw[<- Qd hkt,KW hi],?_⟩;obtain⟨kk,hkk⟩:=aJ (T:=T2) (n:=0) (r:=i) (Nat.zero_le _) (by omega);obtain⟨_,h3⟩:=Vm hkk;rw[Nat.sub_zero,<- htu,List.getElem?_map,hi] at h3;simp at h3;rw[hkk,h3];refine .inr ⟨λi hi e=>?_,by rw[<- a3];exact h2⟩;have he:tu[i]?=some tu[i]:=List.getElem?_eq_getElem (by omega);refine h1 _ (List.mem_of_getElem? he) ?_;rw[e,<- Qd hkt,KW he]
end AI
namespace AI
open Go Go.RowKit
section
variable {P:Program} {G:A6}
def QM(G:A6)(s0:AS)(r0:CR)(s2:AS):CR->AS->Prop:=λr s'=>match r0 with
 | .ret v=>∃a,r=.ret a/\tM G s0 [a] s' [v] s2
 | .IL v=>∃a,r=.IL a/\tM G s0 [a] s' [v] s2
def BX(hm:P.follows .mixedOrders=true){f:FuncId}{args:List AV}{s0 s2:AS}{r0:CR}(h:WC P G (XS P G) H0 f args s0 (QM G s0 r0 s2)):Sound P G (.call f args s0 r0 s2):=by
 obtain⟨r,s',hj,hq⟩:=h;have hS:=sound (Rz hm) hj;intro cx w vs hs Gp;refine(hS cx w vs hs Gp).mono ?_;rintro e w' ⟨c',hx,Cm,iB⟩;cases r0 with
 | ret v =>
   obtain⟨a,rfl,hf⟩:=hq;obtain⟨u,rfl,hu⟩:=iB;obtain⟨c2,x2,TV,f2⟩:=hf cx w c' w' [u] hx hs Cm (.cons hu .nil);cases f2 with
   | cons f3 _=>exact⟨c2,x2,TV,u,rfl,f3⟩
 | IL v =>
   obtain⟨a,rfl,hf⟩:=hq;obtain⟨u,rfl,hu⟩:=iB;obtain⟨c2,x2,TV,f2⟩:=hf cx w c' w' [u] hx hs Cm (.cons hu .nil);cases f2 with
   | cons f3 _=>exact⟨c2,x2,TV,u,rfl,f3⟩
def P3(P:Program)(G:A6)(fn:Func)(m:Nat)(s0:AS)(Q:AX->List AV->AS->Prop)(v:AV)(s2:AS):Prop:=∀a s',tM G s0 [a] s' [v] s2->Rb P fn m Q a s'
def S1(G:A6)(m:Nat)(s0:AS)(Q:AX->List AV->AS->Prop)(v:AV)(s2:AS):Prop:=∀a s',tM G s0 [a] s' [v] s2->TZ m Q a s'
def P3.body{fn:Func}{m:Nat}{s0 s2:AS}{v:AV}:P3 P G fn m s0 (SG P fn m (QM G s0 (.ret v) s2)) v s2:=λa s' hf=>.body ⟨a,rfl,hf⟩
def S1.body{fn:Func}{m:Nat}{s0 s2:AS}{v:AV}:S1 G m s0 (SG P fn m (QM G s0 (.IL v) s2)) v s2:=λa s' hf=>.body ⟨a,rfl,hf⟩
def P3.outer{fn:Func}{m id:Nat}{ks:List KI}{s0 s2:AS}{Q:AX->List AV->AS->Prop}{v:AV}(h:P3 P G fn m s0 Q v s2):P3 P G fn m s0 (EC id (D8 P G ks Q)) v s2:=λa s' hf=>(h a s' hf).outer
def P3.GJ{fn:Func}{m:Nat}{L:Code}{s0 s1 s2:AS}{Q:AX->List AV->AS->Prop}{v:AV}(h:P3 P G fn m s0 Q v s2):P3 P G fn m s0 (TA P G L s1 Q) v s2:=h
def S1.outer{m id:Nat}{ks:List KI}{s0 s2:AS}{Q:AX->List AV->AS->Prop}{v:AV}(h:S1 G m s0 Q v s2):S1 G m s0 (EC id (D8 P G ks Q)) v s2:=λa s' hf=>(h a s' hf).outer
def S1.GJ{m:Nat}{L:Code}{s0 s1 s2:AS}{Q:AX->List AV->AS->Prop}{v:AV}(h:S1 G m s0 Q v s2):S1 G m s0 (TA P G L s1 Q) v s2:=h
def Af{f:FuncId}{args:List AV}{v:AV}{pre:List (Nat×AL)}{tp:List (Nat×Nat)}{QD:List (Nat×AL)}{tu:List (Nat×Nat)}(h:Cd.ok P G (.ET f args (.ret v) pre tp QD tu)):PC P G :=
 ⟨.u v pre tp QD tu,[.ET f args (.ret v) pre tp QD tu,.p5 (N6 pre) (N6 pre) (OH tp) (OH tp)],⟨h,⟨rfl,rfl⟩,trivial⟩⟩
def afw{f:FuncId}{args VL:List AV}{v:AV}{pre:List (Nat×AL)}{tp:List (Nat×Nat)}{QD:List (Nat×AL)}{tu:List (Nat×Nat)}(w:Wn args VL)(h:Cd.ok P G (.ET f VL (.ret v) pre tp QD tu)):PC P G :=
 ⟨.u v pre tp QD tu,[.ET f args (.ret v) pre tp QD tu,.p5 (N6 pre) (N6 pre) (OH tp) (OH tp)],⟨λs h1 h2 cx wd vs hs ha=>h s h1 h2 cx wd vs hs (w.ok ha),⟨rfl,rfl⟩,trivial⟩⟩
def An{f:FuncId}{args:List AV}{v:AV}{pre:List (Nat×AL)}{tp:List (Nat×Nat)}{QD:List (Nat×AL)}{tu:List (Nat×Nat)}(h:Cd.ok P G (.ET f args (.IL v) pre tp QD tu)):PC P G :=
 ⟨.q v pre tp QD tu,[.ET f args (.IL v) pre tp QD tu,.p5 (N6 pre) (N6 pre) (OH tp) (OH tp)],⟨h,⟨rfl,rfl⟩,trivial⟩⟩
def lW:PC P G:=⟨.za,[],trivial⟩
end
end AI
namespace AI
open Go Go.RowKit
mutual
def YI{n m n2 m2:Nat}(h1:n<=n2)(h2:m<=m2):∀{a:AV},under n m a=true->under n2 m2 a=true
 | .sc _,_=>rfl
 | .agg cs,h=>by simp only[under] at h ⊢;exact JB h1 h2 h
 | .Dk cs,h=>by simp only[under] at h ⊢;exact JB h1 h2 h
 | .sl o k cs,h=>by
   simp only[under,Bool.and_eq_true] at h ⊢;refine⟨?_,JB h1 h2 h.2⟩;have h3:=h.1;cases o with
   | row r z=>simp only[decide_eq_true_eq] at h3 ⊢;omega
   | _=>rfl
 | .ID id _ _,h=>by simp only[under,decide_eq_true_eq] at h ⊢;omega
 | .el cs,h=>by simp only[under] at h ⊢;exact JB h1 h2 h
 | .ptr id _,h=>by simp only[under,decide_eq_true_eq] at h ⊢;omega
 | .fn _ a b,h=>by simp only[under,Bool.and_eq_true] at h ⊢;exact⟨JB h1 h2 h.1,JB h1 h2 h.2⟩
 | .E7 _ v,h=>by simp only[under] at h ⊢;exact YI h1 h2 h
 | .mp id,h=>by simp only[under,decide_eq_true_eq] at h ⊢;omega
 | .any,_=>rfl
 | .raw _ _ _,_=>rfl
def JB{n m n2 m2:Nat}(h1:n<=n2)(h2:m<=m2):∀{a:List AV},Fp n m a=true->Fp n2 m2 a=true
 | [],_=>rfl
 | a::l,h=>by simp only[Fp,Bool.and_eq_true] at h ⊢;exact⟨YI h1 h2 h.1,JB h1 h2 h.2⟩
end
def Wn.z{l m:List AV}(t:Wn l m):Wn (.sl .full 0 []::l) (.sl .lost 0 []::m):=.s rfl t
def rS{P:Program}{G:A6}{r:HR}{X:Prop}{x:Value}{fn:Func}{m:Nat}{l:List (PC P G)}(R:T3 P G l (SG P fn m (λr _=>∃a,r=.ret a/\Fits 0 0 a (.sc x))) r X)(h:afI P fn r=some (fF l,.sc x)):X:=Bc fn m R h .body .sc
abbrev JJ:=List Value×List AV
def ajP:List Value->Nat->Value
 | [],_=>undef
 | v::_,0=>v
 | _::l,k+1=>ajP l k
def al0:List AV->Nat->AV
 | [],_=>.sc undef
 | v::_,0=>v
 | _::l,k+1=>al0 l k
def jn(j:JJ)(k:Nat):Value:=ajP j.1 k
def gn(j:JJ)(k:Nat):AV:=al0 j.2 k
def frm:Nat->Nat->List (Nat×AV)->List Nat->Nat->List Nat->Nat->JJ->List AV
 | 0,_,_,_,_,_,_,_=>[]
 | n+1,p,l,bs,kb,gs,kg,j=>(match ZN p l with
   | some v=>v::frm n (p+1) (l.drop 1) bs kb gs kg j
   | none=>(match hZ p bs with
     | true=>.sc (jn j kb)::frm n (p+1) l (bs.drop 1) (kb+1) gs kg j
     | false=>(match hZ p gs with
       | true=>gn j kg::frm n (p+1) l bs kb (gs.drop 1) (kg+1) j
       | false=>.any::frm n (p+1) l bs kb gs kg j)))
where
 ZN (p:Nat):List (Nat×AV)->Option AV
   | []=>none
   | e::_=>(match Nat.beq e.1 p with | true=>some e.2 | false=>none)
 hZ (p:Nat):List Nat->Bool
   | []=>false
   | e::_=>Nat.beq e p
structure Mm(κ ν:Type) where
 es:List (κ×ν×Nat)
 cl:Nat
section
variable {κ ν:Type} [DecidableEq κ]
def Ll(k:κ):List (κ×ν×Nat)->Nat->Option (Nat×ν)
 | [],_=>none
 | e::es,i=>if e.1=k then some (i,e.2.1) else Ll k es (i+1)
def Mm.get(m:Mm κ ν)(k:κ):Option ν:=(Ll k m.es 0).map (·.2)
def Mm.set(m:Mm κ ν)(k:κ)(v:ν):Mm κ ν:=match Ll k m.es 0 with
 | some (j,_)=>(match m.es[j]? with | some e=>⟨m.es.set j (k,v,e.2.2),m.cl⟩ | none=>m)
 | none=>⟨m.es++[(k,v,m.cl)],m.cl+1⟩
def Mm.nil:Mm κ ν:=⟨[],0⟩
def vO(k k2:κ)(v:ν)(b:Nat):∀(es:List (κ×ν×Nat)) (i:Nat),Ll k (es++[(k2,v,b)]) i=match Ll k es i with
   | some r=>some r
   | none=>if k2=k then some (i+es.length,v) else none:=by
 intro es
 induction es with
 | nil=>intro i;simp[Ll]
 | cons e es ih =>
   intro i;simp only[List.cons_append,Ll];by_cases he:e.1=k;simp[he];rw[if_neg he,if_neg he,ih (i+1)];cases Ll k es (i+1) with
   | some r=>rfl
   | none=>simp only[List.length_cons];rw[show i+1+es.length=i+(es.length+1) by omega]
def iX{k:κ}:∀{es:List (κ×ν×Nat)} {i j:Nat} {v:ν},Ll k es i=some (j,v)->∃m e,j=i+m/\es[m]?=some e/\e.1=k/\e.2.1=v:=by
 intro es
 induction es with
 | nil=>intro i j v h;cases h
 | cons e es ih =>
   intro i j v h;simp only[Ll] at h;split at h;rename_i he;cases h;exact⟨0,e,rfl,rfl,he,rfl⟩;obtain⟨m,e',h1,h2,h3⟩:=ih h;exact⟨m+1,e',by omega,by simpa using h2,h3⟩
def vP{k:κ}{v:ν}:∀{es:List (κ×ν×Nat)} {i m b:Nat} {v0:ν},Ll k es i=some (i+m,v0)->∀k',Ll k' (es.set m (k,v,b)) i=if k'=k then some (i+m,v) else Ll k' es i:=by
 intro es
 induction es with
 | nil=>intro i m b v0 h;cases h
 | cons e es ih =>
   intro i m b v0 h k';simp only[Ll] at h;split at h;rename_i he;have hm:m=0:=by have h5:=congrArg (λo:Option (Nat×ν)=>o.map (·.1)) h;simp at h5;omega
   subst hm;simp only[List.set_cons_zero,Ll,he];by_cases hk:k'=k;simp[hk];have fA:¬k=k':=λe=>hk e.symm;simp[hk,fA]
   . rename_i he
     obtain⟨m',_,hm,_⟩:=iX h;cases m with
     | zero=>omega
     | succ m =>
       simp only[List.set_cons_succ,Ll];have:=ih (i:=i+1) (m:=m) (b:=b) (by rw[show i+1+m=i+(m+1) by omega];exact h) k';by_cases hk:e.1=k';rw[if_pos hk,if_pos hk];have:¬k'=k:=λe'=>he (hk.trans e');simp[this];rw[if_neg hk,if_neg hk,this,show i+1+m=i+(m+1) by omega]
def Mm.WD(m:Mm κ ν)(k:κ)(v:ν)(k':κ):(m.set k v).get k'=if k'=k then some v else m.get k':=by
 unfold Mm.get Mm.set;cases hf:Ll k m.es 0 with
 | none =>
   simp only;rw[vO];by_cases hk:k'=k;subst hk;rw[hf];simp
   . cases iC:Ll k' m.es 0 with
     | some r=>simp[hk]
     | none =>
       have fA:¬k=k':=λe=>hk e.symm;simp[hk,fA]
 | some r =>
   obtain⟨j,v0⟩:=r;obtain⟨q,e,h1,h2,h3,_⟩:=iX hf;have hj:j=q:=by omega
   subst hj;simp only[h2];rw[vP (i:=0) (m:=j) (v0:=v0) (by rw[Nat.zero_add];exact hf)];by_cases hk:k'=k<;>simp[hk]
end
structure ap6{κ:Type}[DecidableEq κ](d:TypeDesc)(kv:κ->Value):Prop where
 pk:plainKey d=true
 same:∀a b:κ,Ys d (kv a) (kv b)=some (decide (b=a))
end AI
namespace AI
open Go Go.RowKit
section
variable {P:Program} {G:A6} {α:Type} {f:α->List AV} {C:List α->List AV} {k:Nat}
def OM.ixm(_:OM f C k){t elem:TypeId}(hu:P.underlying t=some (.slice elem))(hs:(P.info? elem).map (·.size)=some k){id n i:Nat}(h:i < n):Db P t (.ID id 0 n) (.sc (.int .i64 ((i:Nat):Int)))=some (.ptr id (0+i*k)):=by
 cases hi:P.info? elem with
 | none=>rw[hi] at hs;cases hs
 | some e =>
   rw[hi] at hs;have hk:e.size=k:=by simpa using hs
   have hn:QY (.sc (.int .i64 ((i:Nat):Int)))=some i:=by unfold QY;simp
   unfold Db;rw[hu,hn];simp only[hi];rw[if_pos h,hk]
def aF{l:List α}{i:Nat}(y:α)(h:i < l.length):l.set i y=l.take i++y::l.drop (i+1):=by
 rw[List.set_eq_take_append_cons_drop,if_pos h]
def OM.st(h:OM f C k){e:TypeId}(hs:(P.info? e).map (·.size)=some k){l:List α}{i:Nat}{x:α}(hx:l[i]?=some x)(y:α){v:AV}(hv:cellsOf v=f y)(h1:(f y).all one=true):Cd.ok P G (.stB (.cells (C l)) e (0+i*k) v (.cells (C (l.set i y)))):=by
 intro s id hg;have GI:=(List.getElem?_eq_some_iff.1 hx).1;have hle:i*k+k<=l.length*k:=by have:=Nat.mul_le_mul_right k GI;rw[Nat.succ_mul] at this;exact this
 cases hi:P.info? e with
 | none=>rw[hi] at hs;cases hs
 | some j =>
   rw[hi] at hs;have hk:j.size=k:=by simpa using hs
   unfold Kk;rw[hi];simp only[hg];rw[hv,hk,h.eq,Nat.zero_add,if_pos ⟨h.len y,h1,by rw[IH h.len];exact hle⟩,h.eq];congr 3;unfold Ia;rw[h.len y,V6 h.len,show i*k+k=(i+1)*k by rw[Nat.succ_mul],V5 h.len,aF y GI,OC,Gj,List.append_assoc]
end
end AI
namespace AI
open Go Go.RowKit
section
variable {P:Program} {G:A6}
def x8{f:FuncId}{fn:Func}{c:Code}{args:List AV}{s s0 s2:AS}{m:Nat}{v:AV}(hf:P.funcs[f]?=some fn)(hb:fn.body=some c)(h:W P G (XS P G) H0 c (args++List.replicate (fn.ntmps - args.length) (.sc undef)) s (SG P fn m (QM G s0 (.ret v) s2))):WC P G (XS P G) H0 f args s (λr s'=>QM G s0 (.ret v) s2 r (s'.cut m)):=by
 obtain⟨e,U9,s1,h1,h2⟩:=h;cases e with
 | normal=>obtain⟨v,h3,h4⟩:=h2;exact⟨_,_,.body hf hb h1 (.inl rfl) h3 (.inr rfl),h4⟩
 | ret=>obtain⟨v,h3,h4⟩:=h2;exact⟨_,_,.body hf hb h1 (.inr rfl) h3 (.inr rfl),h4⟩
 | IL v=>obtain⟨a,ha,_⟩:=h2;cases ha
 | exit id=>exact h2.elim
def aki(hm:P.follows .mixedOrders=true){f:FuncId}{args:List AV}{s0 s2:AS}{v:AV}{m:Nat}(h:WC P G (XS P G) H0 f args s0 (λr s'=>QM G s0 (.ret v) s2 r (s'.cut m))):Sound P G (.call f args s0 (.ret v) s2):=by
 obtain⟨r,s',hj,a,rfl,hf⟩:=h;have hS:=sound (Rz hm) hj;intro cx w vs hs Gp;refine(hS cx w vs hs Gp).mono ?_;rintro e w' ⟨c',hx,Cm,u,rfl,hu⟩;obtain⟨c2,x2,TV,f2⟩:=hf cx w c' w' [u] hx hs (Cm.cut m) (.cons hu .nil);cases f2 with
 | cons f3 _=>exact⟨c2,x2,TV,u,rfl,f3⟩
def aeu(hG:∀g cs,G g=some cs->BA cs=true){s s' s2:AS}{B8 fr2:List AV}(hn:s.nx<=s2.nx)(hr:s.nr<=s2.nr)(hn2:s2.nx<=s'.nx)(Y2:s2.nr<=s'.nr)
   (hd:Je s2.h s2.nx) (aiX:∀id b,look id s2.h=some b->∃b',look id s'.h=some b'/\QJ s2.nx s2.nr b' b) (hF:∀r n,D0 r s2.F=some n->D0 r s'.F=some n/\r < s2.nr)
   (hf:Jf s2.nx s2.nr B8 fr2):tM G s B8 s' fr2 s2:=by
 intro cx w c' w' vs hx hs Cm OU;have hl1:=hs.len;have ZQ:=Cm.len;have hl3:=hs.Ix;have hl4:=Cm.Ix
 have RA:cx.CS <+: c'.CS.take s2.nx:=by
   obtain⟨t,ht⟩:=hx.CS;rw[<- ht,List.take_append,List.take_of_length_le (by omega)];exact List.prefix_append _ _
 have hrl:(c'.rows.take s2.nr).length=s2.nr:=by rw[List.length_take];omega
 refine⟨c'.upto s2.nx s2.nr,⟨RA,?_,λr x WH h=>hx.rows r x WH (EK h).1,λg i v hv=>UO (hx.Zs g i v hv),hx.below,hx.base,hx.bad,λg hg=>hx.Zk g (List.mem_of_mem_take hg),λr g n cap sz h=>hx.Zl r g n cap sz (EK h).1,hx.GM⟩,?_,hf _ _ _ OU⟩;show cx.rows.length<=(c'.rows.take s2.nr).length;omega;refine⟨?_,hd,λi j g h1 h2=>Cm.nodup i j g (EK h1).1 (EK h2).1,λg hg=>Cm.low g (List.mem_of_mem_take hg),λid g b h1 h2=>?_,hrl.symm,λr g n cap sz h=>?_,λr n h=>?_,λg hg=>Cm.Md g (List.mem_of_mem_take hg),Cm.Ml,λr r' g n cap sz n' BJ M7 h h'=>Cm.Io r r' g n cap sz n' BJ M7 (EK h).1 (EK h').1,λg cs hg=>(Cm.Mq g cs hg).upto (Cl _ _ (hG g cs hg)),Cm.PY⟩;show s2.nx=(c'.CS.take s2.nx).length;rw[List.length_take];omega;obtain⟨b',h3,h4⟩:=aiX id b h2;obtain⟨o,ho,hb⟩:=Cm.box id g b' (EK h1).1 h3;exact⟨o,ho,h4 _ _ _ hb⟩;obtain⟨a1,a2,a3,a4⟩:=Cm.row r g n cap sz (EK h).1;exact⟨a1,a2,λhm=>a3 (List.mem_of_mem_take hm),a4⟩;obtain⟨h1,h2⟩:=hF r n h;rcases Cm.IG r n h1 with ⟨h3,h4⟩ | ⟨g,cap,sz,h3⟩
 exact .inl ⟨QC h3 h2,h4⟩;exact .inr ⟨g,cap,sz,QC h3 h2⟩
def afJ(hG:∀g cs,G g=some cs->BA cs=true){live:List Nat}{n m:Nat}{s0:AS}{B8:List AV}{s':AS}{KD:List (FP n m)}{P9:List (FB n m)}{fr2:List AV}{s2:AS}(hn:s0.nx<=n)(hr:s0.nr<=m)(hn2:n<=s'.nx)(Y2:m<=s'.nr)(h:aj9 live n m B8 s' (Y0 KD) (fbB P9)=some (fr2,s2,eY KD,fbA P9)):tM G s0 B8 s' fr2 s2:=by
 unfold aj9 at h;split at h;rename_i f1 as hm;split at h;rename_i h1 uH hb;simp only[Option.some.injEq,Prod.mk.injEq] at h;obtain⟨rfl,rfl,rfl,rfl⟩:=h;intro cx w c' w' vs hx hs Cm OU;obtain⟨hd,hl⟩:=ad7 hb;refine aeu (s:=s0) (s2:=⟨h1,n,VM m s'.F,m⟩) hG hn hr hn2 Y2 (hd _ (gJ Cm.desc)) (λid b hb=>?_) (λr n hr=>gT hr) (afd hm) cx w c' w' vs hx hs Cm OU;obtain⟨b',h3,h4⟩:=hl id b hb;exact⟨b',S8 Cm.desc h3,h4⟩;cases h;cases h
def alm(n:Nat):List Nat->Bool
 | []=>false
 | k::l=>Nat.beq n k||alm n l
def Yj(ks:List Nat):List (Nat×AL)->List (Nat×AL)
 | []=>[]
 | e::l=>match alm e.1 ks with
   | true=>e::Yj ks l
   | false=>Yj ks l
def Tt{ks:List Nat}:∀{l:List (Nat×AL)} {n:Nat},Je l n->Je (Yj ks l) n
 | [],_,_=>trivial
 | e::l,n,h=>by
   simp only[Yj];split;exact⟨h.1,Tt h.2⟩;exact(Tt h.2).mono (Nat.le_of_lt h.1)
def Tu{ks:List Nat}{id:Nat}{b:AL}:∀{l:List (Nat×AL)} {n:Nat},Je l n->look id (Yj ks l)=some b->look id l=some b
 | [],_,_,h=>h
 | e::l,n,hd,h=>by
   simp only[Yj] at h;split at h;simp only[look] at h ⊢;split at h;exact h;exact Tu hd.2 h;have h1:=Tu hd.2 h;have h2:=WK hd.2 h1;simp only[look];split;rename_i hb;have:=beq_true hb;omega;exact h1
def AS.pick(s:AS)(ks:List Nat):AS:=⟨Yj ks s.h,s.nx,s.F,s.nr⟩
def St.pick{c:Cx}{w:World}{s:AS}(h:St G c w s)(ks:List Nat):St G c w (s.pick ks) :=
 ⟨h.len,Tt h.desc,h.nodup,h.low,λid g b h1 h2=>h.box id g b h1 (Tu h.desc h2),h.Ix,h.row,h.IG,h.Md,h.Ml,h.Io,h.Mq,h.PY⟩
def ahU(ks:List Nat)(live:List Nat)(n m0:Nat)(P:Program)(fn:Func)(m:Nat)(bs:List AV)(cs:List AL):HR->Option (List Cd×List AV×AS×List AV×List AL)
 | some (.fin .ret,[],cd,fr,s)=>(match Gn P s fn fr with
   | some v=>(match Nat.ble n s.nx&&Nat.ble m0 s.nr with
     | true=>(match aj9 live n m0 [v] ((s.cut m).pick ks) bs cs with
       | some (fr2,s2,as,uH)=>some (cd,fr2,s2,as,uH)
       | none=>none)
     | false=>none)
   | none=>none)
 | _=>none
def aex(hG:∀g cs,G g=some cs->BA cs=true){r:HR}{X:Prop}{s0:AS}{Q:AX->List AV->AS->Prop}(fn:Func)(m:Nat){l:List (PC P G)}(ks:List Nat)(live:List Nat){n m0:Nat}(KD:List (FP n m0))(P9:List (FB n m0))(v:AV)(s2:AS)(R:T3 P G l Q r X)(hn:s0.nx<=n)(hr:s0.nr<=m0)
   (h:ahU ks live n m0 P fn m (Y0 KD) (fbB P9) r=some (fF l,[v],s2,eY KD,fbA P9)) (k:P3 P G fn m s0 Q v s2):X:=by
 unfold ahU at h;split at h;split at h;rename_i v' hv;split at h;rename_i hle;simp only[Bool.and_eq_true] at hle;split at h;rename_i h1;simp only[Option.some.injEq,Prod.mk.injEq] at h;obtain⟨rfl,rfl,rfl,rfl,rfl⟩:=h;exact R _ _ _ _ rfl (NE l) (k _ _ (λcx w c' w' vs hx hs Cm hf=>afJ (s':=(AS.cut _ m).pick ks) hG hn hr (Nat.le_of_ble_eq_true hle.1) (Nat.le_of_ble_eq_true hle.2) h1 cx w c' w' vs hx hs (Cm.pick ks) hf) _ _ hv rfl);cases h;cases h;cases h;cases h
inductive RnH(dn dr nx nr:Nat):List (Nat×AL)->List (Nat×AL)->Prop where
 | nil:RnH dn dr nx nr [] []
 | cons {i:Nat} {b b':AL} {l m:List (Nat×AL)} (h:tN dn dr (λi=>nx+i) (λr=>nr+r) b b') (t:RnH dn dr nx nr l m):RnH dn dr nx nr ((i,b)::l) ((nx+i,b')::m)
def RnH.desc{dn dr nx nr:Nat}{l m h:List (Nat×AL)}(hr:RnH dn dr nx nr l m)(hh:Je h nx):∀{n:Nat},Je l n->Je (m++h) (nx+n):=by
 induction hr with
 | nil=>intro n _;exact hh.mono (Nat.le_add_right _ _)
 | cons h1 t ih=>intro n hd;exact⟨Nat.add_lt_add_left hd.1 _,ih hd.2⟩
def RnH.look{dn dr nx nr id:Nat}{b:AL}{l m h:List (Nat×AL)}(hr:RnH dn dr nx nr l m)(hb:AI.look id (m++h)=some b):(∃i b0,id=nx+i/\AI.look i l=some b0/\tN dn dr (λi=>nx+i) (λr=>nr+r) b0 b)\/AI.look id h=some b:=by
 induction hr with
 | nil=>exact .inr hb
 | @cons i b0 b1 l m h1 t ih =>
   simp only[List.cons_append,AI.look] at hb;split at hb;rename_i he;cases hb;refine .inl ⟨i,b0,(beq_true he).symm,?_,h1⟩;simp only[AI.look];rw[Nat.beq_refl];rename_i he;have Is:=beq_false he;rcases ih hb with ⟨i',b',e,h2,h3⟩ | h2
   refine .inl ⟨i',b',e,?_,h3⟩;simp only[AI.look];split;rename_i h4;have:=beq_true h4;omega;exact h2;exact .inr h2
def vK{nr r n:Nat}{F:List (Nat×Nat)}:∀{F2:List (Nat×Nat)},D0 r (F2.map (λp=>(nr+p.1,p.2))++F)=some n->(∃q,r=nr+q/\D0 q F2=some n)\/D0 r F=some n:=by
 intro F2
 induction F2 with
 | nil=>exact λh=>.inr h
 | cons x l ih =>
   intro h;simp only[List.map_cons,List.cons_append,D0] at h;split at h;rename_i he;cases h;refine .inl ⟨x.1,(beq_true he).symm,?_⟩;simp only[D0];rw[Nat.beq_refl];rename_i he;have Is:=beq_false he;rcases ih h with ⟨q,e,h2⟩ | h2
   refine .inl ⟨q,e,?_⟩;simp only[D0];split;rename_i h4;have:=beq_true h4;omega;exact h2;exact .inr h2
def aiI(hG:∀g cs,G g=some cs->BA cs=true){f:FuncId}{args:List AV}{v v':AV}{h2 h3:List (Nat×AL)}{dn dr nx nr:Nat}{F2:List (Nat×Nat)}(h:Sound P G (.call f args ⟨[],0,[],0⟩ (.ret v) ⟨h2,dn,F2,dr⟩))(hp:BA args=true)
   (hv:Rn dn dr (λi=>nx+i) (λr=>nr+r) v v') (hb:RnH dn dr nx nr h2 h3):Cd.ok P G (.Zz f args nx nr v' h3 dn (F2.map λp=>(nr+p.1,p.2)) dr):=by
 intro s hnx xN cx w vs hs ha;subst hnx xN;have hlp:=hs.len;have hlr:=hs.Ix
 have Ij:∀g i x,LD cx w g i x->LD ⟨w.heap.size,[],[],cx.Zp⟩ w g i x:=by
   intro g i x hx;refine⟨hx.1,λGq=>?_,hx.2.2⟩;rcases Gq with Gq | ⟨r,n,cap,sz,hr,_⟩ | Gq
   cases Gq;simp at hr;exact hx.2.1 Gq
 have F4:St G ⟨w.heap.size,[],[],cx.Zp⟩ w ⟨[],0,[],0⟩ :=
   ⟨rfl,trivial,(λi j g h1=>by simp at h1),(λg hg=>by cases hg),(λid g b h1=>by simp at h1),rfl,(λr g n cap sz hr=>by simp at hr),(λr n hr=>by cases hr),(λg hg=>by cases hg),(λg i hb=>hs.TD hb),(λr r' g n cap sz n' BJ M7 hr=>by simp at hr),(λg cs hg=>A9.plain Ij (hG g cs hg) (hs.Mq g cs hg)),Nat.le_refl _⟩
 refine(h _ w vs F4 (CG.plain Ij hp ha)).mono ?_;rintro e w' ⟨c',hx,Cm,u,rfl,hu⟩;have N8:=hx.below;have Te:Ra w w' (λ_=>False):=⟨N8.os,N8.tape,N8.output,N8.size,λk hk _=>N8.block k hk⟩;have hpn:∀g,some g∈c'.CS->w.heap.size<=g:=λg hg=>(hx.Zk g hg).resolve_left (by simp);have hrn:∀(r:Nat) g n cap sz,c'.rows[r]?=some (.QZ g n cap sz)->w.heap.size<=g:=λr g n cap sz hg=>(hx.Zl r g n cap sz hg).resolve_left (by rintro⟨_,_,_,_,hh⟩;simp at hh);have ZQ:dn=c'.CS.length:=Cm.len;have Y2:dr=c'.rows.length:=Cm.Ix;let c1:Cx:=⟨cx.base,cx.CS++c'.CS,cx.rows++c'.rows,cx.bad⟩
 have hpu:∀(i:Nat) g,c'.CS[i]?=some (some g)->c1.CS[s.nx+i]?=some (some g):=λi g hg=>by
   show(cx.CS++c'.CS)[s.nx+i]?=_;rw[List.getElem?_append_right (by omega),show s.nx+i - cx.CS.length=i by omega];exact hg
 have hru:∀(r:Nat) x,c'.rows[r]?=some x->c1.rows[s.nr+r]?=some x:=λr x hg=>by
   show(cx.rows++c'.rows)[s.nr+r]?=_;rw[List.getElem?_append_right (by omega),show s.nr+r - cx.rows.length=r by omega];exact hg
 have hpc:∀(i:Nat) g,c1.CS[i]?=some (some g)->(i < s.nx/\cx.CS[i]?=some (some g))\/∃k,i=s.nx+k/\c'.CS[k]?=some (some g):=λi g hg=>by
   have hg:(cx.CS++c'.CS)[i]?=some (some g):=hg;by_cases hi:i < cx.CS.length;rw[List.getElem?_append_left hi] at hg;exact .inl ⟨by omega,hg⟩;rw[List.getElem?_append_right (by omega)] at hg;exact .inr ⟨i - cx.CS.length,by omega,hg⟩
 have hrc:∀(i:Nat) x,c1.rows[i]?=some x->(i < s.nr/\cx.rows[i]?=some x)\/∃k,i=s.nr+k/\c'.rows[k]?=some x:=λi x hg=>by
   have hg:(cx.rows++c'.rows)[i]?=some x:=hg;by_cases hi:i < cx.rows.length;rw[List.getElem?_append_left hi] at hg;exact .inl ⟨by omega,hg⟩;rw[List.getElem?_append_right (by omega)] at hg;exact .inr ⟨i - cx.rows.length,by omega,hg⟩
 have hmc:∀g,some g∈c1.CS->some g∈cx.CS\/some g∈c'.CS:=λg hg=>List.mem_append.1 hg;have KF:∀g i,cx.Zp g i->c'.Zp g i:=λg i hh=>.inr (.inr (by rw[hx.bad];exact hh))
 have iI:∀g i x,LD c' w' g i x->LD c1 w' g i x:=by
   intro g i x iJ;refine⟨iJ.1,λGq=>iJ.2.1 ?_,iJ.2.2⟩;rcases Gq with Gq | ⟨q,n,cap,sz,hq,h1,h2⟩ | Gq
   rcases hmc g Gq with hm | hm
   exact KF _ _ (.inl hm);exact .inl hm;rcases hrc q _ hq with ⟨_,h3⟩ | ⟨k,_,h3⟩
   exact KF _ _ (.inr (.inl ⟨q,n,cap,sz,h3,h1,h2⟩));exact .inr (.inl ⟨k,n,cap,sz,h3,h1,h2⟩);exact KF _ _ (.inr (.inr Gq))
 have ext:Ext cx w c1 w':=by
   refine⟨List.prefix_append _ _,by simp[c1],λq y hq hy=>?_,λg i x hv=>iI g i x (hx.Zs g i x (Ij g i x hv)),Te.below hs.PY (λ_ hf=>hf.elim),rfl,rfl,λg hg=>?_,λq g n cap sz hq=>?_,λq hq hp hr=>Te.block q hq (λhf=>hf)⟩;rcases hrc q y hy with ⟨_,h3⟩ | ⟨k,h3,_⟩
   exact⟨y,h3,Kj.refl y⟩;omega;rcases hmc g hg with hm | hm
   exact .inl hm;exact .inr (hpn g hm);rcases hrc q _ hq with ⟨_,h3⟩ | ⟨k,_,h3⟩
   exact .inl ⟨_,_,_,_,h3⟩;exact .inr (hrn _ _ _ _ _ h3)
 have hup:Up dn dr (λi=>s.nx+i) (λr=>s.nr+r) c' w' c1 w':=⟨iI,λi g _ hg=>hpu i g hg,λq hq=>by
   have hq:q < c'.rows.length:=by omega
   exact⟨_,hru q _ (List.getElem?_eq_getElem hq),List.getElem?_eq_getElem hq⟩⟩
 have st1:St G c1 w' ⟨h3++s.h,s.nx+dn,F2.map (λp=>(s.nr+p.1,p.2))++s.F,s.nr+dr⟩:=by
   refine⟨by simp only[c1,List.length_append];omega,hb.desc hs.desc Cm.desc,λi j g h1 h2=>?_,λg hg=>?_,λid g b h1 h2=>?_,by simp only[c1,List.length_append];omega,λq g n cap sz hq=>?_,λq n hq=>?_,λg hg=>?_,λg i hb=>Nat.lt_of_lt_of_le (hs.Ml g i hb) Te.size,λq q' g n cap sz n' BJ M7 h1 h2=>?_,λg cs XQ=>(hs.Mq g cs XQ).mono ext,Nat.le_trans hs.PY Te.size⟩;rcases hpc i g h1 with ⟨_,a1⟩ | ⟨k,rfl,a1⟩<;>rcases hpc j g h2 with ⟨_,a2⟩ | ⟨k2,rfl,a2⟩
   exact hs.nodup _ _ _ a1 a2;have:=hs.Mw (List.mem_of_getElem? a1);have:=hpn g (List.mem_of_getElem? a2);omega;have:=hs.Mw (List.mem_of_getElem? a2);have:=hpn g (List.mem_of_getElem? a1);omega;rw[Cm.nodup _ _ _ a1 a2];rcases hmc g hg with hm | hm
   exact hs.low g hm;exact Nat.le_trans hs.PY (hpn g hm);rcases hb.look h2 with ⟨i,b0,rfl,h4,h5⟩ | h4
   rcases hpc _ g h1 with ⟨a0,_⟩ | ⟨k,a0,a1⟩
   omega;have:k=i:=by omega
   subst this;obtain⟨o,ho,u4⟩:=Cm.box k g b0 a1 h4;exact⟨o,ho,h5.up hup u4⟩;have GI:=WK hs.desc h4;rcases hpc _ g h1 with ⟨_,a1⟩ | ⟨k,a0,_⟩
   obtain⟨o,ho,u4⟩:=hs.box id g b a1 h4;refine⟨o,?_,u4.mono ext⟩;rw[Te.block g (Array.getElem?_eq_some_iff.1 ho).1 (λhf=>hf)];exact ho;omega;rcases hrc q _ hq with ⟨_,h3⟩ | ⟨k,_,h3⟩
   obtain⟨a1,a2,a3,a4,vs',T,a5,a6⟩:=hs.row _ _ _ _ _ h3;refine⟨a1,a2,λhm=>?_,a4,vs',T,?_,a6⟩;rcases hmc g hm with hm | hm
   exact a3 hm;have:=hpn g hm;have:=hs.Mx h3;omega;rw[Te.block g (Array.getElem?_eq_some_iff.1 a5).1 (λhf=>hf)];exact a5;obtain⟨a1,a2,a3,a4,a5⟩:=Cm.row _ _ _ _ _ h3;have On:=hrn _ _ _ _ _ h3;refine⟨λi hb=>?_,Nat.le_trans hs.PY On,λhm=>?_,a4,a5⟩;have:=hs.Ml _ _ hb;omega;rcases hmc g hm with hm | hm
   have:=hs.Mw hm;omega;exact a3 hm;rcases vK hq with ⟨k,rfl,h4⟩ | h4
   rcases Cm.IG k n h4 with ⟨h5,h6⟩ | ⟨g,cap,sz,h5⟩
   exact .inl ⟨hru _ _ h5,h6⟩;exact .inr ⟨g,cap,sz,hru _ _ h5⟩
   have key:∀x,cx.rows[q]?=some x->c1.rows[q]?=some x:=λx hh=>by
     show(cx.rows++c'.rows)[q]?=_;rw[List.getElem?_append_left (List.getElem?_eq_some_iff.1 hh).1];exact hh
   rcases hs.IG q n h4 with ⟨h5,h6⟩ | ⟨g,cap,sz,h5⟩
   exact .inl ⟨key _ h5,h6⟩;exact .inr ⟨g,cap,sz,key _ h5⟩;rcases hmc g hg with hm | hm
   exact Nat.lt_of_lt_of_le (hs.Md g hm) Te.size;exact Cm.Md g hm;rcases hrc q _ h1 with ⟨_,a1⟩ | ⟨k,rfl,a1⟩<;>rcases hrc q' _ h2 with ⟨_,a2⟩ | ⟨k2,rfl,a2⟩
   exact hs.Io _ _ _ _ _ _ _ _ _ a1 a2;have:=hs.Mx a1;have:=hrn _ _ _ _ _ a2;omega;have:=hs.Mx a2;have:=hrn _ _ _ _ _ a1;omega;rw[Cm.Io _ _ _ _ _ _ _ _ _ a1 a2]
 exact⟨c1,ext,st1,u,rfl,hv.up hup hu⟩
def ajX{f:FuncId}{args:List AV}{nx nr:Nat}{v:AV}{h:List (Nat×AL)}{dn:Nat}{F:List (Nat×Nat)}{dr:Nat}(h1:Cd.ok P G (.Zz f args nx nr v h dn F dr)):PC P G :=
 ⟨.cn v h dn F dr,[.Zz f args nx nr v h dn F dr],⟨h1,trivial⟩⟩
end
end AI
namespace AI
open Go Go.RowKit
section
variable {P:Program} {G:A6}
def OM.mB{α:Type}{f:α->List AV}{C:List α->List AV}{k:Nat}(h:OM f C k)(h1:∀x,(f x).all one=true)(m:List α):(C m).all one=true:=by
 rw[h.eq,List.all_eq_true];intro a ha;obtain⟨x,_,hx⟩:=List.mem_flatMap.1 ha;exact List.all_eq_true.1 (h1 x) a hx
def OM.ga{α:Type}{f:α->List AV}{C:List α->List AV}{k:Nat}(h:OM f C k){t tx e e2 yO:Nat}(hu:P.underlying t=some (.slice e))(hux:P.underlying tx=some (.slice e2))(hi:(P.info? e).map (λi=>(i.size,i.bytes,i.zero.map (·.cells.size)))=some (k,yO,some k))(hk:0 < k)(hb:yO<=10000)
   (own:Own) (l m:List α) {o:Own} (s:AS) (hm:m.length=0) (hlen:l.length+m.length<=100000000):Cd.ok P G (.TU s t tx (.sl own l.length (C l)) (.sl o m.length (C m)) (.sl own l.length (C l)) s):=by
 have hm0:m=[]:=List.eq_nil_of_length_eq_zero hm;subst hm0;cases hq:P.info? e with
 | none=>rw[hq] at hi;cases hi
 | some i =>
   rw[hq] at hi;simp only[Option.map_some,Option.some.injEq,Prod.mk.injEq] at hi;obtain⟨h1,h2,h3⟩:=hi;cases hz:i.zero with
   | none=>rw[hz] at h3;cases h3
   | some z =>
     rw[hz] at h3;simp only[Option.map_some,Option.some.injEq] at h3;have hc:C []=[]:=by rw[h.eq];rfl
     have nG:(C l).length=l.length*k:=by rw[h.eq,IH h.len]
     refine⟨.sl own l.length (C l),?_,λc w u hr=>hr⟩
     have hs:We P s i.size tx (.sl o ([]:List α).length (C []))=some (0,[]):=by
       unfold We;rw[hux,hc];simp
     unfold KN;simp only[hu,hq,hz];rw[if_pos ⟨by rw[h3,h1],by omega⟩,hs];simp only[List.length_nil] at hlen ⊢
     have lR:(l.length+0)*i.bytes<=140737488355328:=by
       rw[h2];exact Nat.le_trans (Nat.mul_le_mul hlen hb) (by decide)
     rw[if_pos ⟨by rw[nG,h1],rfl,lR,by omega⟩,if_pos trivial]
def aio{t tx e:TypeId}{i:TypeInfo}{z:Value}{b:AV}{m:Nat}{ns:List AV}(ht:P.underlying t=some (.slice e))(hi:P.info? e=some i)(hz:i.zero=some z)(ai9:∀s,We P s i.size tx b=some (m,ns))(hm:m≠0)(ho:ns.all one=true)(hb:m*i.bytes<=140737488355328)(hl:m<=9223372036854775807)(s:AS):aia P G t tx (.sl .full 0 []) b s (.ID s.nx 0 m) (s.new (.cells ns)):=by
 intro c w va vb ty hs ha hbv;obtain⟨news,xN,Vf,hsi⟩:=bN hs (ai9 s) hbv
 have nD:∃A,va=.slice A 0 0:=by
   cases ha with
   | @Jc _ A cap h0=>have:cap=0:=h0;subst this;exact⟨A,rfl⟩
   | @KM _ _ cap g o _ hn hc ho=>have:cap=0:=ho;subst this;exact⟨_,rfl⟩
 obtain⟨A,rfl⟩:=nD
 have hold:(Builtin.firstCells i.size 0 (.slice A 0 0)).run P { w with drawn:=w.drawn+1 }=.ok ([]:List Value).toArray { w with drawn:=w.drawn+1 }:=by
   cases A with
   | none=>simp[Builtin.firstCells]
   | some a=>simp[Builtin.firstCells,loadCells,loadCellsFrom]
 obtain⟨BJ,XN,Q5⟩:=Qu (ty:=ty) ht hi hz hsi hold (by omega) (by omega) (by rw[Nat.zero_add];exact hb);rw[Nat.zero_add] at XN Q5;obtain⟨x1,st1⟩:=hs.same (w':={ w with drawn:=w.drawn+1 }) ⟨rfl,rfl,rfl,Nat.le_refl _,λ_ _ _=>rfl⟩
 have hbk:E6 c { w with drawn:=w.drawn+1 } (.cells ns) (.cells (news++(Builtin.zeroCells z.cells (BJ - m)).toList).toArray e (0,0)):=.Hc _ (xN.mono x1)
 obtain⟨x2,TV⟩:=st1.new hbk
 have he:(([]++news).toArray++Builtin.zeroCells z.cells (BJ - m))=(news++(Builtin.zeroCells z.cells (BJ - m)).toList).toArray:=by
   apply Array.ext';simp
 rw[he] at Q5;exact⟨_,_,_,Q5,x1.trans x2,TV,.ID XN (by simp[hs.len])⟩
def pga{s:AS}{t tx:TypeId}{a b:AV}(h:Cd.ok P G (.TU s t tx a b a s)):PC P G:=⟨.a a s,[.TU s t tx a b a s],⟨h,trivial⟩⟩
def apF{s:AS}{t tx:TypeId}{a b:AV}(h:Cd.ok P G (.TU s t tx a b a s)):PC P G:=⟨.ae a,[.TU s t tx a b a s],⟨h,trivial⟩⟩
end
end AI
namespace AI
open Go Go.RowKit
def ahe:Nat->Nat->List Nat->List Nat
 | 0,_,acc=>acc
 | k+1,n,acc=>match Nat.ble n 1 with
   | true=>acc
   | false=>ahe k (n / 2) (n % 2::acc)
def sb(c:Code)(n:Nat):Code:=sub c (ahe 200 n [])
def wk1(a:AV):AV->AV
 | .any=>mN a
 | .sl .lost _ _=>(match a with
   | .sl _ n cs=>.sl .lost n cs
   | a=>a)
 | _=>a
def akG{c:Cx}{w:World}{a b:AV}{v:Value}(hr:Rp c w a v):Rp c w (wk1 a b) v:=by
 unfold wk1;split;exact uQ hr;split;cases hr with
 | Jc _=>exact .Jc trivial
 | KM hn hc _=>exact .KM hn hc trivial
 exact hr;exact hr
def wkF:List AV->List AV->List AV
 | a::l,b::k=>wk1 a b::wkF l k
 | l,_=>l
def RU{c:Cx}{w:World}:∀{l k:List AV} {vs:List Value},CG c w l vs->CG c w (wkF l k) vs
 | [],k,_,h=>by cases k<;>exact h
 | a::l,[],_,h=>h
 | a::l,b::k,_,h=>by cases h with | cons h1 t=>exact .cons (akG h1) (RU t)
def oB(n:Nat):AV->Bool
 | .fn _ a b=>vS a&&vS b
 | a=>obv n a
where
 vS:List AV->Bool
   | []=>true
   | a::l=>obv n a&&vS l
def WR{n m:Nat}:∀{l:List AV},oB.vS n l=true->Fp n m l=true
 | [],_=>rfl
 | a::l,h=>by
   simp only[oB.vS,Bool.and_eq_true] at h;simp only[Fp,Bool.and_eq_true];refine⟨?_,WR h.2⟩;have h1:=h.1;cases a<;>simp only[obv] at h1<;>first | rfl | (cases h1;done) | exact decide_eq_true (Nat.le_of_ble_eq_true h1)
def afi{n m:Nat}{a:AV}(h:oB n a=true):Fits n m a a:=by
 cases a with
 | fn f a b =>
   simp only[oB,Bool.and_eq_true] at h;exact .under (by simp only[under,Bool.and_eq_true];exact⟨WR h.1,WR h.2⟩)
 | _=>exact abN h
def nZ(r:List AV->MR)(n:Nat)(a:AV)(bs:List AV):MR:=match oB n a with
 | true=>ZW a (r bs)
 | false=>none
def Zh(n:Nat):List AV->List AV->List AV->MR
 | [],_,[]=>some ([],[])
 | [],_,_::_=>none
 | a::l,[],bs=>ZX (Zh n l []) a bs
 | a::l,b::k,bs=>match RB b with
   | true=>ZX (Zh n l k) a bs
   | false=>(match oB n b with
     | true=>nZ (Zh n l k) n a bs
     | false=>ae9 (Zh n l k) a bs)
def vL{n m:Nat}{r:List AV->MR}{l:List AV}(hr:∀(KD:List (FP n m)) l2,r (Y0 KD)=some (l2,eY KD)->Jf n m l l2){a:AV}{KD:List (FP n m)}{l2:List AV}(h:nZ r n a (Y0 KD)=some (l2,eY KD)):Jf n m (a::l) l2:=by
 unfold nZ at h;split at h;rename_i ho;unfold ZW at h;split at h;rename_i l3 as h1;cases h;exact .cons (afi ho) (hr KD _ h1);cases h;cases h
def afe{n m:Nat}:∀{l k:List AV} {KD:List (FP n m)} {l2:List AV},Zh n l k (Y0 KD)=some (l2,eY KD)->Jf n m l l2:=by
 intro l
 induction l with
 | nil =>
   intro k KD l2 h;cases KD with
   | nil=>simp only[Y0,Zh] at h;cases h;exact .nil
   | cons p KD=>simp only[Y0,Zh] at h;cases h
 | cons a l ih =>
   intro k KD l2 h;cases k with
   | nil=>simp only[Zh] at h;exact Uq (λKD l2 h=>ih h) h
   | cons b k =>
     simp only[Zh] at h;split at h;exact Uq (λKD l2 h=>ih h) h;split at h;exact vL (λKD l2 h=>ih h) h;exact rH (λKD l2 h=>ih h) h
abbrev FO(n m:Nat):=Option (FB n m)
def xH{n m:Nat}:List (FO n m)->List (Option AL)
 | []=>[]
 | none::l=>none::xH l
 | some p::l=>some p.a::xH l
def mU{n m:Nat}:List (FO n m)->List (Option AL)
 | []=>[]
 | none::l=>none::mU l
 | some p::l=>some p.b::mU l
def apC(n:Nat):AL->Bool
 | .cells cs=>oB.vS n cs
 | _=>false
abbrev BO:=Option (List (Nat×AL)×List (Option AL))
def rU(id:Nat)(a:Option AL)(b:AL):BO->BO
 | some (l,as)=>some ((id,b)::l,a::as)
 | none=>none
def Y7(n:Nat):List (Nat×AL)->List (Option AL)->BO
 | [],[]=>some ([],[])
 | e::l,none::bs=>(match apC n e.2 with
   | true=>rU e.1 none e.2 (Y7 n l bs)
   | false=>none)
 | e::l,some b::bs=>rU e.1 (some e.2) b (Y7 n l bs)
 | _,_=>none
def ad8{n m:Nat}:∀{l:List (Nat×AL)} {P9:List (FO n m)} {l2:List (Nat×AL)},Y7 n l (mU P9)=some (l2,xH P9)->(∀k,Je l k->Je l2 k)/\∀id b,look id l2=some b->∃b',look id l=some b'/\QJ n m b' b:=by
 intro l
 induction l with
 | nil =>
   intro P9 l2 h;cases P9 with
   | nil=>simp only[mU,Y7] at h;cases h;exact⟨λ_ _=>trivial,λid b h=>by cases h⟩
   | cons p P9=>cases p<;>(simp only[mU,Y7] at h;cases h)
 | cons e l ih =>
   intro P9 l2 h
   have fin:∀{P9:List (FO n m)} {l3:List (Nat×AL)} {b2:AL},Y7 n l (mU P9)=some (l3,xH P9)->QJ n m e.2 b2->(∀k,Je (e::l) k->Je ((e.1,b2)::l3) k)/\∀id b,look id ((e.1,b2)::l3)=some b->∃b',look id (e::l)=some b'/\QJ n m b' b:=by
     intro P9 l3 b2 h1 hf;obtain⟨hd,hl⟩:=ih h1;refine⟨λk hk=>⟨hk.1,hd _ hk.2⟩,λid b hb=>?_⟩;simp only[look] at hb ⊢;split at hb;cases hb;exact⟨e.2,rfl,hf⟩;exact hl id b hb
   cases P9 with
   | nil=>simp only[mU,Y7] at h;cases h
   | cons p P9 =>
     cases p with
     | none =>
       simp only[mU,Y7] at h;split at h;rename_i ho;unfold rU at h;split at h;rename_i l3 as h1;simp only[xH,Option.some.injEq,Prod.mk.injEq,List.cons.injEq,true_and] at h;obtain⟨rfl,rfl⟩:=h;refine fin h1 ?_;cases he:e.2 with
       | cells cs=>rw[he] at ho;exact .cells (.under (WR ho))
       | _=>rw[he] at ho;cases ho
       cases h;cases h
     | some p =>
       simp only[mU,Y7] at h;unfold rU at h;split at h;rename_i l3 as h1;simp only[xH,Option.some.injEq,Prod.mk.injEq,List.cons.injEq] at h;obtain⟨rfl,h2,rfl⟩:=h;exact fin h1 (by rw[h2];exact p.h);cases h
abbrev RO2:=Option (List AV×AS×List AV×List (Option AL))
def ab0(oZ:List AV)(n m:Nat)(B8:List AV)(s':AS)(bs:List AV)(cs:List (Option AL)):RO2 :=
 match Zh n B8 oZ bs with
 | some (fr2,as)=>(match Y7 n (SH n s'.h) cs with
   | some (h2,uH)=>some (fr2,⟨h2,n,VM m s'.F,m⟩,as,uH)
   | none=>none)
 | none=>none
section
variable {P:Program} {G:A6}
def dP(hG:∀g cs,G g=some cs->BA cs=true){oZ:List AV}{s0:AS}{B8:List AV}{s':AS}{KD:List (FP s0.nx s0.nr)}{P9:List (FO s0.nx s0.nr)}{fr2:List AV}{s2:AS}(h:ab0 oZ s0.nx s0.nr B8 s' (Y0 KD) (mU P9)=some (fr2,s2,eY KD,xH P9)):tM G s0 B8 s' fr2 s2:=by
 unfold ab0 at h;split at h;rename_i f1 as hm;split at h;rename_i h1 uH hb;simp only[Option.some.injEq,Prod.mk.injEq] at h;obtain⟨rfl,rfl,rfl,rfl⟩:=h;intro cx w c' w' vs hx hs Cm OU;obtain⟨hd,hl⟩:=ad8 hb;refine aet (s:=s0) (s2:=⟨h1,s0.nx,VM s0.nr s'.F,s0.nr⟩) hG rfl rfl (hd _ (gJ Cm.desc)) (λid b hb=>?_) (λr n hr=>gT hr) (afe hm) cx w c' w' vs hx hs Cm OU;obtain⟨b',h3,h4⟩:=hl id b hb;exact⟨b',S8 Cm.desc h3,h4⟩;cases h;cases h
def tM.wk{s0 s':AS}{B8 k:List AV}:tM G s0 B8 s' (wkF B8 k) s':=λ_ _ c' _ _ hx _ Cm OU=>⟨c',hx,Cm,RU OU⟩
def oN(oZ:List AV):HR->Option (AX×List Cd×List AV×AS)
 | some (.fin e,[],cd,fr,s)=>some (e,cd,wkF fr oZ,s)
 | _=>none
def Lk{r:HR}{X:Prop}{L:Code}{s0:AS}{Q:AX->List AV->AS->Prop}{l:List (PC P G)}{fr2:List AV}{s2:AS}(R:T3 P G l (TA P G L s0 Q) r X)(h:oN fr2 r=some (.normal,fF l,fr2,s2))(k:WL P G (XS P G) H0 L fr2 s2 Q):X:=by
 unfold oN at h;split at h;simp only[Option.some.injEq,Prod.mk.injEq] at h;obtain⟨rfl,rfl,h3,rfl⟩:=h;exact R _ _ _ _ rfl (NE l) ⟨_,_,h3▸tM.wk,k⟩;cases h
def Fq{r:HR}{X:Prop}{L:Code}{s0:AS}{Q:AX->List AV->AS->Prop}{l:List (PC P G)}{id:Nat}{fr2:List AV}{s2:AS}(R:T3 P G l (TA P G L s0 Q) r X)(h:oN fr2 r=some (.exit id,fF l,fr2,s2))(k:Q (.exit id) fr2 s2):X:=by
 unfold oN at h;split at h;simp only[Option.some.injEq,Prod.mk.injEq] at h;obtain⟨rfl,rfl,h3,rfl⟩:=h;exact R _ _ _ _ rfl (NE l) ⟨_,_,h3▸tM.wk,k⟩;cases h
def ahV(oZ:List AV)(n m:Nat)(bs:List AV)(cs:List (Option AL)):HR->Option (AX×List Cd×List AV×AS×List AV×List (Option AL))
 | some (.fin e,[],cd,fr,s)=>(match ab0 oZ n m fr s bs cs with
   | some (fr2,s2,as,uH)=>some (e,cd,fr2,s2,as,uH)
   | none=>none)
 | _=>none
def Ho(hG:∀g cs,G g=some cs->BA cs=true){r:HR}{X:Prop}{L:Code}{s0:AS}{Q:AX->List AV->AS->Prop}{l:List (PC P G)}(KD:List (FP s0.nx s0.nr))(P9:List (FO s0.nx s0.nr)){fr2:List AV}{s2:AS}(R:T3 P G l (TA P G L s0 Q) r X)
   (h:ahV fr2 s0.nx s0.nr (Y0 KD) (mU P9) r=some (.normal,fF l,fr2,s2,eY KD,xH P9)) (k:WL P G (XS P G) H0 L fr2 s2 Q):X:=by
 unfold ahV at h;split at h;split at h;rename_i h1;simp only[Option.some.injEq,Prod.mk.injEq] at h;obtain⟨rfl,rfl,rfl,rfl,rfl,rfl⟩:=h;exact R _ _ _ _ rfl (NE l) ⟨_,_,dP hG h1,k⟩;cases h;cases h
def amb(n m0:Nat)(P:Program)(fn:Func)(m:Nat)(e0:AX)(oZ bs:List AV)(cs:List (Option AL)):HR->Option (AX×List Cd×List AV×AS×List AV×List (Option AL))
 | some (.fin e,[],cd,fr,s)=>(match Gn P s fn fr with
   | some v=>(match ab0 oZ n m0 [v] (s.cut m) bs cs with
     | some (fr2,s2,as,uH)=>some (e,cd,fr2,s2,as,uH)
     | none=>none)
   | none=>none)
 | _=>none
def Au(hG:∀g cs,G g=some cs->BA cs=true){r:HR}{X:Prop}{s0:AS}{Q:AX->List AV->AS->Prop}(fn:Func)(m:Nat){l:List (PC P G)}(KD:List (FP s0.nx s0.nr))(P9:List (FO s0.nx s0.nr)){v:AV}{s2:AS}(R:T3 P G l Q r X)
   (h:amb s0.nx s0.nr P fn m .ret [v] (Y0 KD) (mU P9) r=some (.ret,fF l,[v],s2,eY KD,xH P9)) (k:P3 P G fn m s0 Q v s2):X:=by
 unfold amb at h;split at h;split at h;rename_i v' hv;split at h;rename_i h1;simp only[Option.some.injEq,Prod.mk.injEq] at h;obtain⟨rfl,rfl,rfl,rfl,rfl,rfl⟩:=h;exact R _ _ _ _ rfl (NE l) (k _ _ (dP hG h1) _ _ hv rfl);cases h;cases h;cases h
def akT(z:List NZ)(oZ:List AV):HR->Option (List Cd×Nat×Code×List KI×List AV×AS)
 | some (.at id c ks,[],cd,fr,s)=>(match nzs z fr s with
   | some (fr2,s2)=>some (cd,id,c,ks,wkF fr2 oZ,s2)
   | none=>none)
 | _=>none
def IJ{r:HR}{X:Prop}{Q:AX->List AV->AS->Prop}{l:List (PC P G)}(z:List NZ)(id:Nat)(L:Code)(VV:List KI){fr2:List AV}{s2:AS}(R:T3 P G l Q r X)
   (h:akT z fr2 r=some (fF l,id,L,VV,fr2,s2)) (k:WL P G (XS P G) H0 L fr2 s2 (EC id (D8 P G VV Q))):X:=by
 unfold akT at h;split at h;split at h;rename_i fr3 s3 hz;simp only[Option.some.injEq,Prod.mk.injEq] at h;obtain⟨rfl,rfl,rfl,rfl,h5,rfl⟩:=h;refine R _ _ _ _ rfl (NE l) ?_;obtain⟨e3,fr4,s4,h3,h4⟩:=k;refine⟨e3,fr4,s4,.ah8 (λcx w vs hs hr=>?_) h3,h4⟩;obtain⟨c2,x2,TV,r2⟩:=n9 hz cx w vs hs hr;exact⟨c2,x2,TV,h5▸RU r2⟩;cases h;cases h
def jv(j:List Value)(k:Nat):Value:=ajP j k
def hdv(p:Nat):List (Nat×Value)->Option Value
 | []=>none
 | e::_=>(match Nat.beq e.1 p with | true=>some e.2 | false=>none)
def jsN(j:List Value)(l:List (Nat×Value))(k:Nat):Nat->List Value
 | 0=>[]
 | n+1=>(match hdv k l with
   | some v=>v::jsN j (l.drop 1) (k+1) n
   | none=>jv j k::jsN j l (k+1) n)
def js(n:Nat)(j:List Value)(l:List (Nat×Value)):List Value:=jsN j l 0 n
def frQ:Nat->Nat->List (Nat×AV)->List Nat->Nat->List Value->List AV
 | 0,_,_,_,_,_=>[]
 | n+1,p,l,bs,kb,j=>(match frm.ZN p l with
   | some v=>v::frQ n (p+1) (l.drop 1) bs kb j
   | none=>(match frm.hZ p bs with
     | true=>.sc (jv j kb)::frQ n (p+1) l (bs.drop 1) (kb+1) j
     | false=>.any::frQ n (p+1) l bs kb j))
def fr(n:Nat)(l:List (Nat×AV))(bs:List Nat)(j:List Value):List AV:=frQ n 0 l bs 0 j
def exR{δ:Type}(Q:AX->List AV->AS->Prop)(id:Nat)(F:δ->List Value->List AV)(S:δ->AS)(d:δ):Prop:=∀j,Q (.exit id) (F d j) (S d)
section loops
variable {α γ δ ρ β:Type} {id:Nat} {L:Code} {VV:List KI} {Q:AX->List AV->AS->Prop} {done:γ->δ} {X:Prop} {k:δ->Option β} {kr:ρ->Option β} {r:β}
def Rj(Rv:(AX->List AV->AS->Prop)->ρ->Prop){body:Nat->α->γ->Option (Lp γ δ ρ)}{l:List α}{i0:Nat}{x:γ}(F:Nat->γ->List Value->List AV)(S:γ->AS)(XF:δ->List Value->List AV)(SX:δ->AS)(j:List Value)
   (Tb:WL P G (XS P G) H0 L (F i0 x j) (S x) (EC id (D8 P G VV Q))->X)
   (hz:∀i x j,l.length<=i->exR (EC id (D8 P G VV Q)) id XF SX (done x)->W P G (XS P G) H0 L (F i x j) (S x) (TA P G L (S x) (EC id (D8 P G VV Q))))
   (hs:∀i y x j r,l[i]?=some y->i < l.length->i < 9223372036854775807->RQ (λx'=>∀j',WL P G (XS P G) H0 L (F (i+1) x' j') (S x') (EC id (D8 P G VV Q))) (exR (EC id (D8 P G VV Q)) id XF SX) (Rv (EC id (D8 P G VV Q))) r->body i y x=some r->W P G (XS P G) H0 L (F i x j) (S x) (TA P G L (S x) (EC id (D8 P G VV Q))))
   (hb:∀d j,k d=some r->D8 P G VV Q .normal (XF d j) (SX d)) (hr:∀v,kr v=some r->Rv (EC id (D8 P G VV Q)) v) :
   (SR l.length (Dl body done (l.drop i0) i0 x)).bind (PZ k kr)=some r->X:=λh=>by
 obtain⟨dO,h1,h2⟩:=fU h;obtain⟨hl,h1⟩:=apx h1;refine Tb (adY l F (λ_ x _=>S x) (λ_=>True) (exR (EC id (D8 P G VV Q)) id XF SX) (Rv (EC id (D8 P G VV Q))) (λi x j _ h3 h4=>bD (hz i x j h3 h4)) (λi y x j r _ h3 h4 h5 h6=>bD (hs i y x j r h3 h4 (by omega) (by cases r with | nx _=>exact λj'=>h6 j' trivial | ex _=>exact h6 | rt _=>exact h6) h5)) i0 h1 ?_ j trivial)
 cases dO with
 | inl d =>
   intro j;show D8 P G VV Q (EL id (.exit id)) _ _;rw[show EL id (.exit id)=.normal from by simp[EL]];exact hb d j h2
 | inr v=>exact hr v h2
def U3(Rv:(AX->List AV->AS->Prop)->ρ->Prop){body:γ->Option (Lp γ δ ρ)}{x:γ}(F:γ->List Value->List AV)(S:γ->AS)(XF:δ->List Value->List AV)(SX:δ->AS)(j:List Value)
   (Tb:WL P G (XS P G) H0 L (F x j) (S x) (EC id (D8 P G VV Q))->X)
   (hs:∀x j r,RQ (λx'=>∀j',WL P G (XS P G) H0 L (F x' j') (S x') (EC id (D8 P G VV Q))) (exR (EC id (D8 P G VV Q)) id XF SX) (Rv (EC id (D8 P G VV Q))) r->body x=some r->W P G (XS P G) H0 L (F x j) (S x) (TA P G L (S x) (EC id (D8 P G VV Q))))
   (hb:∀d j,k d=some r->D8 P G VV Q .normal (XF d j) (SX d)) (hr:∀v,kr v=some r->Rv (EC id (D8 P G VV Q)) v) :
   (Qa body x).bind (PZ k kr)=some r->X:=λh=>by
 obtain⟨dO,h1,h2⟩:=fU h;obtain⟨n,h1⟩:=aer h1;refine Tb (adZ F (λx _=>S x) (λ_=>True) (exR (EC id (D8 P G VV Q)) id XF SX) (Rv (EC id (D8 P G VV Q))) (λx j r _ h5 h6=>bD (hs x j r (by cases r with | nx _=>exact λj'=>h6 j' trivial | ex _=>exact h6 | rt _=>exact h6) h5)) n h1 ?_ j trivial)
 cases dO with
 | inl d =>
   intro j;show D8 P G VV Q (EL id (.exit id)) _ _;rw[show EL id (.exit id)=.normal from by simp[EL]];exact hb d j h2
 | inr v=>exact hr v h2
end loops
def K9{ks:List KI}{fr:List AV}{s:AS}{Q:AX->List AV->AS->Prop}(n:Nat)(l:List (PC P G)):T3 P G l Q (Q3 (Sk P G n) ks .normal (pHs l) fr s) (D8 P G ks Q .normal fr s):=λ_ _ _ _ h hc hk=>cE (cG n) ks _ h hc hk
def pi{i:Nat}(h:i < 9223372036854775807):PC P G:=apG i h
def bp{n m:Nat}{a:List AV}(h:BA a=true):FO n m:=some ⟨.cells a,.cells a,.cells (.plain h)⟩
def bu{n m:Nat}(a:List AV)(h:Fp n m a=true):FO n m:=some ⟨.cells a,.cells a,.cells (.under h)⟩
def bw{n m:Nat}(a b:AL)(h:QJ n m a b):FO n m:=some ⟨a,b,h⟩
def pure_nil{f:FuncId}{n:Nat}{cs:List AV}{v:AV}(h1:n=0->cs=[]->Pure P G f [.sl .nil 0 []] v)(h2:Pure P G f [.sl .nn n cs] v):Pure P G f [.sl .lost n cs] v:=λs cx w vs hs ha=>by
 cases ha with
 | cons h t =>
   cases h with
   | @Jc _ A cap _ =>
     cases hA:A.isNone with
     | true=>exact h1 rfl rfl s cx w _ hs (.cons (.Jc hA) t)
     | false=>exact h2 s cx w _ hs (.cons (.Jc hA) t)
   | KM hn hc _=>exact h2 s cx w _ hs (.cons (.KM hn hc trivial) t)
def al5{n:Nat}{l:List AV}(h:BA l=true):plain (.sl .nn n l)=true:=by simp only[plain,h];rfl
end
end AI
namespace AI
open Go Go.RowKit
section
variable {P:Program} {G:A6}
def pH(G:A6)(s:AS)(a v:AV):Prop:=∀(c:Cx) (w:World) (u:Value),St G c w s->(∀g,some g∈c.CS->∀i,¬c.bad g i)->Rp c w a u->Rp (c.upto 0 0) w v u
inductive Fz(s:AS):List AV->List AV->Prop where
 | nil:Fz s [] []
 | r {a b:AV} {l k:List AV} (h:Fits 0 0 a b) (t:Fz s l k):Fz s (a::l) (b::k)
 | f {id n:Nat} {cs l k:List AV} (h:s.get id=some (.cells cs)) (hp:BA cs=true) (t:Fz s l k):Fz s (.ID id 0 n::l) (.sl .lost n cs::k)
 | g {cs ds l k:List AV} (h:Fz s cs ds) (t:Fz s l k):Fz s (.agg cs::l) (.agg ds::k)
 | u {cs ds l k:List AV} (h:Fz s cs ds) (t:Fz s l k):Fz s (.Dk cs::l) (.Dk ds::k)
def Fz.ok{s:AS}{c:Cx}{w:World}(hs:St G c w s)(hb:∀g,some g∈c.CS->∀i,¬c.bad g i){l k:List AV}(h:Fz s l k):∀{us:List Value},CG c w l us->CG (c.upto 0 0) w k us:=by
 induction h with
 | nil=>intro us hr;cases hr;exact .nil
 | r h _ ih=>intro us hr;cases hr with | cons h1 t=>exact .cons (h _ _ _ h1) (ih t)
 | @f id n cs l k h hp _ ih =>
   intro us hr;cases hr with
   | cons h1 t =>
     refine .cons ?_ (ih t);cases h1 with
     | @ID _ _ _ g cap hn hid =>
       obtain⟨vs,ext,T,hw,hv⟩:=Pl hs hid h;have hg:=List.mem_of_getElem? hid
       have Ij:∀g i v,LD c w g i v->LD (c.upto 0 0) w g i v:=λg i v hv=>⟨hv.1,λGq=>by
         rcases Gq with Gq | ⟨r,n',BJ,M7,hr,_⟩ | Gq
         simp[Cx.upto] at Gq;simp[Cx.upto] at hr;exact hv.2.1 (.inr (.inr Gq)),hv.2.2⟩
       refine .KM hn (A9.Ow (CG.plain Ij hp hv) (λi v hi=>?_)) trivial;rw[Nat.zero_add];refine⟨hs.Md g hg,λGq=>?_,cell_of_heap hw (RX hi)⟩;rcases Gq with Gq | ⟨r,n',BJ,M7,hr,_⟩ | Gq
       simp[Cx.upto] at Gq;simp[Cx.upto] at hr;exact hb g hg i Gq
 | g _ _ nQ vE=>intro us hr;cases hr with | cons h1 t=>cases h1 with | agg h2=>exact .cons (.agg (nQ h2)) (vE t)
 | u _ _ nQ vE=>intro us hr;cases hr with | cons h1 t=>cases h1 with | Dk h2=>exact .cons (.Dk (nQ h2)) (vE t)
def pH.of{s:AS}{a v:AV}(h:Fz s [a] [v]):pH G s a v:=λc w u hs hb hr=>by
 have:=h.ok hs hb (.cons hr .nil);cases this with
 | cons h1 _=>exact h1
def apH{t tx:TypeId}{a b:AV}{n:Nat}{m:AL}(h:Cd.ok P G (.apB t tx a b n m)):PC P G:=⟨.mb n m,[.apB t tx a b n m],⟨h,trivial⟩⟩
def OM.apm{α:Type}{f:α->List AV}{C:List α->List AV}{k:Nat}(h:OM f C k){t tx e e2 yO:Nat}(hu:P.underlying t=some (.slice e))(hux:P.underlying tx=some (.slice e2))(hi:(P.info? e).map (λi=>(i.size,i.bytes,i.zero.map (·.cells.size)))=some (k,yO,some k))(hk:0 < k)(hb:yO<=10000)(h1:∀x,(f x).all one=true)
   (m:List α) {o:Own} (hm:¬m.length=0) (hlen:m.length<=100000000):Cd.ok P G (.apB t tx (.sl .full 0 []) (.sl o m.length (C m)) m.length (.cells (C m))):=by
 cases hq:P.info? e with
 | none=>rw[hq] at hi;cases hi
 | some i =>
   rw[hq] at hi;simp only[Option.map_some,Option.some.injEq,Prod.mk.injEq] at hi;obtain⟨h3,h4,h5⟩:=hi;cases hz:i.zero with
   | none=>rw[hz] at h5;cases h5
   | some z =>
     intro s;refine aio hu hq hz (λs=>?_) hm (h.mB h1 m) (by rw[h4];exact Nat.le_trans (Nat.mul_le_mul hlen hb) (by decide)) (by omega) s;unfold We;rw[hux,h3];simp only[h.eq,IH h.len,if_true]
end
end AI
namespace AI
open Go
end AI
namespace AI
open Go Go.RowKit
end AI
namespace AI
open Go Go.RowKit
abbrev EW:=Cx->World->Prop
abbrev QE:=AX->List AV->AS->EW->Prop
def EOk(e:AX)(fr:List AV)(c:Cx)(w:World)(e':Exit)(a:Act):Prop:=match e with
 | .normal=>e'=.normal/\CG c w fr a.tmps.toList
 | .exit id=>e'=.exit id/\CG c w fr a.tmps.toList
 | .ret=>e'=.ret/\CG c w fr a.tmps.toList
 | .IL v=>∃u,e'=.panic [{ v:=u,recovered:=false }]/\Rp c w v u
def EPost(G:A6)(Q:QE)(K:Exit->Act->World->Prop):Prop:=∀e fr s E,Q e fr s E->∀(cx:Cx) (w:World) (a:Act) (e':Exit),E cx w->St G cx w s->a.defers=[]->EOk e fr cx w e' a->K e' a w
def WE(P:Program)(G:A6)(E:EW)(c:Code)(fr:List AV)(s:AS)(Q:QE):Prop:=∀(cx:Cx) (w:World) (a:Act) (K:Exit->Act->World->Prop),E cx w->St G cx w s->CG cx w fr a.tmps.toList->a.defers=[]->EPost G Q K->c.wp P K a w
def Pa(P:Program)(G:A6)(E:EW)(ops:Array Oper)(l:List Nat)(fr:List AV)(s:AS)(Q:QE):Prop:=∀(cx:Cx) (w:World) (a:Act) (K:Exit->Act->World->Prop),E cx w->St G cx w s->CG cx w fr a.tmps.toList->a.defers=[]->EPost G Q K->wpOps P ops K l a w
def TX(E:EW):Prop:=∀(cx:Cx) (w:World) (Q1:Cx) (w':World),E cx w->Ext cx w Q1 w'->E Q1 w'
def EOk.Py{e:AX}{fr:List AV}{c:Cx}{w:World}{e':Exit}{a:Act}(h:EOk e fr c w e' a)(he:e≠.normal):e'≠.normal:=by
 cases e with
 | normal=>exact absurd rfl he
 | exit id=>intro h5;rw[h.1] at h5;cases h5
 | ret=>intro h5;rw[h.1] at h5;cases h5
 | IL v=>obtain⟨u,h5,_⟩:=h;intro h6;rw[h5] at h6;cases h6
section
variable {P:Program} {G:A6} {E:EW} {fr:List AV} {s:AS} {Q:QE}
def WE.of(hm:P.follows .mixedOrders=true)(hk:TX E){c:Code}{Q0:AX->List AV->AS->Prop}(h:W P G (XS P G) H0 c fr s Q0)(hQ:∀e B8 s',Q0 e B8 s'->Q e B8 s' E):WE P G E c fr s Q:=by
 obtain⟨e,B8,s',hj,hq⟩:=h;have hS:=sound (Rz hm) hj;intro cx w a K hE hs hf hd hK;refine hS cx w a K hs hf hd ?_;rintro e' a' w' ⟨c',hx,Cm,Q4,h4⟩;refine hK e B8 s' E (hQ _ _ _ hq) c' w' a' e' (hk _ _ _ _ hE hx) Cm Q4 ?_;cases e<;>exact h4
def WE.seq{x y:Code}(h:WE P G E x fr s (λe B8 s' E'=>(e=.normal/\WE P G E' y B8 s' Q)\/(e≠.normal/\Q e B8 s' E'))):WE P G E (.seq x y) fr s Q:=by
 intro cx w a K hE hs hf hd hK;refine wp_seq (h cx w a _ hE hs hf hd ?_);rintro e B8 s' E' hq Q1 w' a' e' gZ Cm Q4 Uj;rcases hq with ⟨rfl,h2⟩ | ⟨Is,hq⟩
 obtain⟨rfl,iC⟩:=Uj;exact h2 Q1 w' a' K gZ Cm iC Q4 hK;exact UF (Uj.Py Is) (hK _ _ _ _ hq _ _ _ _ gZ Cm Q4 Uj)
def WE.cond{q:Operand}{x y:Code}{t:Bool}(hq:A8 G fr q=some (.sc (.bool t)))(h:WE P G E (if t then x else y) fr s Q):WE P G E (.cond q x y) fr s Q:=by
 intro cx w a K hE hs hf hd hK;have hr:=Er hs hf hq
 have IA:a.eval q=.bool t:=by
   generalize a.eval q=v at hr;cases hr;rfl
 exact wp_cond IA (h cx w a K hE hs hf hd hK)
def WE.skip(h:Q .normal fr s E):WE P G E .skip fr s Q:=λcx w a K hE hs hf hd hK=>wp_skip (hK _ _ _ _ h cx w a _ hE hs hd ⟨rfl,hf⟩)
def WE.exit{id:Nat}(h:Q (.exit id) fr s E):WE P G E (.exit id) fr s Q:=λcx w a K hE hs hf hd hK=>wp_exit (hK _ _ _ _ h cx w a _ hE hs hd ⟨rfl,hf⟩)
def WE.block{id:Nat}{c:Code}(h:WE P G E c fr s (λe B8 s' E'=>Q (EL id e) B8 s' E')):WE P G E (.block id c) fr s Q:=by
 intro cx w a K hE hs hf hd hK;refine wp_block (h cx w a _ hE hs hf hd ?_);rintro e B8 s' E' hq Q1 w' a' e' gZ Cm Q4 h4;cases e with
 | normal=>obtain⟨rfl,h5⟩:=h4;exact hK _ _ _ _ hq Q1 w' a' _ gZ Cm Q4 ⟨rfl,h5⟩
 | exit QO =>
   obtain⟨rfl,h5⟩:=h4;show if QO=id then K .normal a' w' else K (.exit QO) a' w'
   by_cases hid:QO=id;rw[if_pos hid];refine hK _ _ _ _ hq Q1 w' a' _ gZ Cm Q4 ?_;simp only[EL,hid,if_true];exact⟨rfl,h5⟩;rw[if_neg hid];refine hK _ _ _ _ hq Q1 w' a' _ gZ Cm Q4 ?_;simp only[EL,hid,if_false];exact⟨rfl,h5⟩
 | ret=>obtain⟨rfl,h5⟩:=h4;exact hK _ _ _ _ hq Q1 w' a' _ gZ Cm Q4 ⟨rfl,h5⟩
 | IL v=>obtain⟨u,rfl,h5⟩:=h4;exact hK _ _ _ _ hq Q1 w' a' _ gZ Cm Q4 ⟨u,rfl,h5⟩
def WE.loop{L:Code}(I:Nat->List AV->AS->EW->Prop)(h:∀m fr s E,I m fr s E->WE P G E L fr s (λe B8 s' E'=>(e=.normal/\∃m',m' < m/\I m' B8 s' E')\/(e≠.normal/\Q e B8 s' E'))){m:Nat}(hi:I m fr s E):WE P G E (.loop L) fr s Q:=by
 have key:∀(n m:Nat) (fr:List AV) (s:AS) (E:EW),m < n->I m fr s E->∀(cx:Cx) (w:World) (a:Act) (K:Exit->Act->World->Prop),E cx w->St G cx w s->CG cx w fr a.tmps.toList->a.defers=[]->EPost G Q K->Code.rounds P L K n a w:=by
   intro n
   induction n with
   | zero=>intro m fr s E hm;omega
   | succ n ih =>
     intro m fr s E hm hi cx w a K hE hs hf hd hK;rw[rounds_succ];refine h m fr s E hi cx w a _ hE hs hf hd ?_;rintro e B8 s' E' hq Q1 w' a' e' gZ Cm Q4 Uj;rcases hq with ⟨rfl,m',lS,Pe⟩ | ⟨Is,hq⟩
     obtain⟨rfl,iC⟩:=Uj;exact ih m' B8 s' E' (by omega) Pe Q1 w' a' K gZ Cm iC Q4 hK;exact UF (Uj.Py Is) (hK _ _ _ _ hq _ _ _ _ gZ Cm Q4 Uj)
 intro cx w a K hE hs hf hd hK;exact wp_loop_rounds (m+1) (key (m+1) m fr s E (Nat.lt_succ_self m) hi cx w a K hE hs hf hd hK)
def WE.region{id:Nat}{ops:Array Oper}(h:Pa P G E ops (List.range ops.size) fr s Q):WE P G E (.region id ops false) fr s Q:=λcx w a K hE hs hf hd hK=>wp_region (h cx w a K hE hs hf hd hK)
def Pa.nil{ops:Array Oper}(h:Q .normal fr s E):Pa P G E ops [] fr s Q:=λcx w a K hE hs hf hd hK=>hK _ _ _ _ h cx w a .normal hE hs hd ⟨rfl,hf⟩
def Pa.op(hm:P.follows .mixedOrders=true)(hk:TX E){ops:Array Oper}{i:Nat}{l:List Nat}{o:Oper}(v:AV){s1:AS}(ho:ops[i]?=some o)(hj:J P G (XS P G) H0 (.op ops o fr s (.ret v) s1))(t:Pa P G E ops l (Ir fr o.dst v) s1 Q):Pa P G E ops (i::l) fr s Q:=by
 intro cx w a K hE hs hf hd hK;refine LC ho (sound (Rz hm) hj cx w a _ _ hs (λx _=>dB hs hf x) (Nl (c:=cx) (w:=w) (λ_ _ _ _ _=>⟨fr,hf,rfl⟩)) ?_);intro u w' c' hx Cm hu;exact t c' w' (a.put o.dst u) K (hk _ _ _ _ hE hx) Cm (Og (hf.mono hx) hu) (by cases o.dst<;>exact hd) hK
def Pa.sem{E':EW}{ops:Array Oper}{i:Nat}{l:List Nat}{o:Oper}{fr2:List AV}(v:AV){s2:AS}(ho:ops[i]?=some o)(hg:o.guard=none)
   (h:∀(cx:Cx) (w:World) (a:Act),E cx w->St G cx w s->CG cx w fr a.tmps.toList->∃u w' Q1,(execOp a.eval o).run P w=.ok (.value u) w'/\E' Q1 w'/\St G Q1 w' s2/\CG Q1 w' fr2 a.tmps.toList/\Rp Q1 w' v u)
   (t:Pa P G E' ops l (Ir fr2 o.dst v) s2 Q):Pa P G E ops (i::l) fr s Q:=by
 intro cx w a K hE hs hf hd hK;refine LC ho ?_;obtain⟨u,w',Q1,hr,gZ,Cm,iC,hu⟩:=h cx w a hE hs hf;unfold Mj;have hw:Region.wanted o (yielded ops a.tmps)=true:=by unfold Region.wanted;rw[hg]
 rw[hw];simp only[if_true];unfold Oper.wp;rw[hr];exact t Q1 w' (a.put o.dst u) K gZ Cm (Og iC hu) (by cases o.dst<;>exact hd) hK
end
def akK(b:Nat)(B:Nat->Nat->Prop)(w0:World)(E:EW):Prop:=∀(c:Cx) (w:World),E c w->c.base=b/\Below b w0 w/\(∀g i,B g i->c.bad g i)/\∀g i,some g∈c.CS->c.bad g i->g < b
def E0(b:Nat)(B:Nat->Nat->Prop)(w0:World):EW:=λc w=>c.base=b/\c.bad=B/\Below b w0 w
def E0.GM{b:Nat}{B:Nat->Nat->Prop}{w0:World}:TX (E0 b B w0):=λcx w Q1 w' h hx=>⟨hx.base.trans h.1,hx.bad.trans h.2.1,h.2.2.trans (by have:=hx.below;rw[h.1] at this;exact this)⟩
def al8{P:Program}{G:A6}(hm:P.follows .mixedOrders=true)(hG:∀g cs,G g=some cs->BA cs=true){f:FuncId}{fn:Func}{c:Code}{args:List AV}{v:AV}(hf:P.funcs[f]?=some fn)(hb:fn.body=some c)
   (h:∀(b:Nat) (B:Nat->Nat->Prop) (w0:World),(∀g i,B g i->g < b)->WE P G (E0 b B w0) c (args++List.replicate (fn.ntmps - args.length) (.sc undef)) s0 (λe B8 s' E'=>(e=.normal\/e=.ret)/\akK b B w0 E'/\∃a,Gn P s' fn B8=some a/\pH G s' a v))
   (hp:BA args=true) (hv:plain v=true):Pure P G f args v:=by
 intro s cx w vs hs Gp
 have Ij:∀g i x,LD cx w g i x->LD ⟨w.heap.size,[],[],cx.Zp⟩ w g i x:=by
   intro g i x hx;refine⟨hx.1,λGq=>?_,hx.2.2⟩;rcases Gq with Gq | ⟨r,n,cap,sz,hr,_⟩ | Gq
   cases Gq;simp at hr;exact hx.2.1 Gq
 have F4:St G ⟨w.heap.size,[],[],cx.Zp⟩ w s0 :=
   ⟨rfl,trivial,(λi j g h1=>by simp at h1),(λg hg=>by cases hg),(λid g b h1=>by simp at h1),rfl,(λr g n cap sz hr=>by simp at hr),(λr n hr=>by cases hr),(λg hg=>by cases hg),(λg i hb=>hs.TD hb),(λr r' g n cap sz n' BJ M7 hr=>by simp at hr),(λg cs hg=>A9.plain Ij (hG g cs hg) (hs.Mq g cs hg)),Nat.le_refl _⟩
 have hl:=Gp.len;refine calls_of_wp hf hb (h w.heap.size cx.Zp w (λg i hb=>hs.TD hb) ⟨w.heap.size,[],[],cx.Zp⟩ w _ _ ⟨rfl,rfl,Below.refl _ _⟩ F4 ?_ rfl ?_);simp only[Array.toList_append,Array.toList_replicate];rw[show vs.toArray.size=args.length by rw[List.size_toArray,hl]];exact(CG.plain Ij hp Gp).append (CG.replicate (.sc rfl) _);rintro e B8 s' E' ⟨he,Ve,a0,hr,hft⟩ c' w' a' e' gZ Mr Q4 Uj;obtain⟨h1,N8,h3,h4⟩:=Ve c' w' gZ
 have aoW:CG c' w' B8 a'.tmps.toList/\(e'=.normal\/e'=.ret):=by
   rcases he with rfl | rfl
   exact⟨Uj.2,.inl Uj.1⟩;exact⟨Uj.2,.inr Uj.1⟩
 obtain⟨hf5,he'⟩:=aoW;obtain⟨u,h6,h7⟩:=Ri Mr hf5 hr;obtain⟨x2,TV⟩:=hs.same (w':=w') ⟨N8.os,N8.tape,N8.output,N8.size,λk hk _=>N8.block k hk⟩
 have KF:∀g,some g∈c'.CS->∀i,¬c'.bad g i:=λg hg i hb=>by
   have h5:=Mr.low g hg;have:=h4 g i hg hb;omega
 have u9:=hft _ _ _ Mr KF h7;have iB:akM G cx w (.ret v) s (.returned u) w':=⟨cx,x2,TV,u,rfl,Rp.plain (c:=c'.upto 0 0) (λg i x iJ=>⟨iJ.1,λGq=>iJ.2.1 (.inr (.inr (h3 g i Gq))),iJ.2.2⟩) hv u9⟩;rcases he' with rfl | rfl
 exact⟨Q4,u,h6,iB⟩;exact⟨Q4,u,h6,iB⟩
end AI
namespace AI
open Go Go.RowKit
def FC:Code->Array Oper
 | .region _ ops _=>ops
 | _=>#[]
def RL:Code->Nat->Bool
 | .region _ ops d,n=>(match d with
   | false=>Nat.beq ops.size n
   | true=>false)
 | _,_=>false
def apz:Oper:={ dst:=none,op:=.move (.tmp 0),type:=0,pos:="",after:=#[],guard:=none }
def opAt(c:Code)(i:Nat):Oper:=((FC c)[i]?).getD apz
def sA{c:Code}{n:Nat}(h:RL c n=true):(∃id,c=.region id (FC c) false)/\(FC c).size=n:=by
 unfold RL at h;split at h;rename_i id ops d;split at h;exact⟨⟨id,rfl⟩,Nat.eq_of_beq_eq_true h⟩;cases h;cases h
def K0{c:Code}{n i:Nat}(h:RL c n=true)(hi:i < n):(FC c)[i]?=some (opAt c i):=by
 have:=(sA h).2;unfold opAt;rw[Array.getElem?_eq_getElem (by omega)];rfl
def rD(o:Oper):Option (Operand×TypeId):=match o.guard with
 | none=>(match o.op with
   | .call cl=>(match cl.callee with
     | .builtin .len=>(match cl.args.toList with
       | [x]=>(match cl.argTypes.toList with
         | [t]=>some (x,t)
         | _=>none)
       | _=>none)
     | _=>none)
   | _=>none)
 | some _=>none
def fO(o:Oper):Option (Operand×Operand×TypeId×TypeId):=match o.guard with
 | none=>(match o.op with
   | .call cl=>(match cl.callee with
     | .builtin .append=>(match cl.args.toList with
       | [x,y]=>(match cl.argTypes.toList with
         | [t,tx]=>some (x,y,t,tx)
         | _=>none)
       | _=>none)
     | _=>none)
   | _=>none)
 | some _=>none
def sM(o:Oper):Option (TypeId×Operand×Operand):=match o.guard with
 | none=>(match o.op with
   | .slice t x lo hi mx=>(match lo with
     | none=>(match hi with
       | some y=>(match mx with
         | none=>some (t,x,y)
         | _=>none)
       | _=>none)
     | _=>none)
   | _=>none)
 | some _=>none
def ajz(o:Oper):Option (TypeId×Operand×Operand):=match o.guard with
 | none=>(match o.op with
   | .indexAddr t x y=>some (t,x,y)
   | _=>none)
 | some _=>none
def ajF(o:Oper):Option (TypeId×Operand):=match o.guard with
 | none=>(match o.op with
   | .load t x=>some (t,x)
   | _=>none)
 | some _=>none
def ad9(o:Oper):Option (TypeId×Operand):=match o.guard with
 | none=>(match o.op with
   | .buildSlice t n ps=>(match n with
     | 1=>(match ps.toList with
       | [(0,x)]=>some (t,x)
       | _=>none)
     | _=>none)
   | _=>none)
 | some _=>none
section
variable {P:Program} {w:World} {ρ:Operand->Value} {o:Oper}
def vH{x:Operand}{t e:TypeId}{A:Option Addr}{n cap:Nat}(h:rD o=some (x,t))(hu:P.underlying t=some (.slice e))(ha:ρ x=.slice A n cap):o.guard=none/\(execOp ρ o).run P w=.ok (.value (.int .i64 n)) w:=by
 unfold rD at h;split at h;rename_i hg;refine⟨hg,?_⟩;split at h;rename_i cl ho;split at h;rename_i Ih;split at h;rename_i x' hx;split at h;rename_i t' ht;cases h;have e1:cl.args=#[x]:=by apply Array.ext';rw[hx]
 have e2:cl.argTypes=#[t]:=by apply Array.ext';rw[ht]
 simp[execOp,ho,resolve,Ih,e1,e2,invoke,builtin,ha,Builtin.len_,run_underlying hu,goInt];cases h;cases h;cases h;cases h;cases h
def Zw{x y:Operand}{t tx:TypeId}{u:Value}{w':World}(h:fO o=some (x,y,t,tx))(hr:∀ty,(Builtin.append_ #[t,tx] ty #[ρ x,ρ y]).run P w=.ok u w'):o.guard=none/\(execOp ρ o).run P w=.ok (.value u) w':=by
 unfold fO at h;split at h;rename_i hg;refine⟨hg,?_⟩;split at h;rename_i cl ho;split at h;rename_i Ih;split at h;rename_i x' y' hx;split at h;rename_i t' tx' ht;cases h;have e1:cl.args=#[x,y]:=by apply Array.ext';rw[hx]
 have e2:cl.argTypes=#[t,tx]:=by apply Array.ext';rw[ht]
 simp[execOp,ho,resolve,Ih,e1,e2,invoke,builtin,hr];cases h;cases h;cases h;cases h;cases h
def fP{q:Operand×Operand×TypeId×TypeId}(h:fO o=some q):o.guard=none:=by
 unfold fO at h;split at h;rename_i hg;exact hg;cases h
def wH{x y:Operand}{t e:TypeId}{i:TypeInfo}{g n cap m:Nat}(h:sM o=some (t,x,y))(hu:P.underlying t=some (.slice e))(hi:P.info? e=some i)(ha:ρ x=.slice (some ⟨g,0,none⟩) n cap)(hy:ρ y=.int .i64 m)(hm:m<=cap):o.guard=none/\(execOp ρ o).run P w=.ok (.value (.slice (some ⟨g,0,none⟩) m cap)) w:=by
 unfold sM at h;split at h;rename_i hg;refine⟨hg,?_⟩;split at h;rename_i t' x' lo Pe mx ho;split at h;split at h;split at h;cases h;have b1:RV 0 none 0:=.inl ⟨rfl,rfl⟩;have b2:RV n (some (.int .i64 ((m:Nat):Int))) m:=.inr ⟨.i64,(m:Int),rfl,by omega,by simp⟩;simp only[execOp,ho,Option.map_none,Option.map_some,ha,hy,Instr.sliceAt,Sem.run_bind,run_underlying hu,Result.andThen_ok,Instr.slice,TC b1 b2 (Nat.zero_le m) hm,Sem.run_pure,CE hi];congr 3;split;rfl;simp[add_lit];cases h;cases h;cases h;cases h;cases h
def abd{x y:Operand}{t e:TypeId}{i:TypeInfo}{g n cap m:Nat}(h:ajz o=some (t,x,y))(hu:P.underlying t=some (.slice e))(hi:P.info? e=some i)(ha:ρ x=.slice (some ⟨g,0,none⟩) n cap)(hy:ρ y=.int .i64 m)(hm:m < n):o.guard=none/\(execOp ρ o).run P w=.ok (.value (.pointer (some ⟨g,m*i.size,none⟩))) w:=by
 unfold ajz at h;split at h;rename_i hg;refine⟨hg,?_⟩;split at h;rename_i t' x' y' ho;cases h;have h0:(0:Int)<=(m:Int):=by omega
 have h1:(m:Int) < (n:Int):=by omega
 simp[execOp,ho,ha,hy,Instr.indexAt,asIntOf,run_underlying hu,hm,CE hi,add_lit];cases h;cases h
def abi{x:Operand}{t:TypeId}{a:Addr}{u:Value}(h:ajF o=some (t,x))(ha:ρ x=.pointer (some a))(hr:(loadVar t a).run P w=.ok u w):o.guard=none/\(execOp ρ o).run P w=.ok (.value u) w:=by
 unfold ajF at h;split at h;rename_i hg;refine⟨hg,?_⟩;split at h;rename_i t' x' ho;cases h;simp[execOp,ho,ha,Instr.loadAt,Instr.sureAddr,hr];cases h;cases h
def yN{x:Operand}{t e:TypeId}{i:TypeInfo}{z:Value}(h:ad9 o=some (t,x))(hu:P.underlying t=some (.slice e))(hi:P.info? e=some i)(hs:i.size=1)(hz:i.zero=some z)(xP:z.cells.size=1)(hv:(ρ x).cells=#[ρ x]):o.guard=none/\(execOp ρ o).run P w=.ok (.value (.slice (some ⟨w.heap.size,0,none⟩) 1 1)) { w with heap:=w.heap.push (.cells #[ρ x] e) }:=by
 unfold ad9 at h;split at h;rename_i hg;refine⟨hg,?_⟩;split at h;rename_i t' n ps ho;split at h;split at h;rename_i x' qQ;cases h;have e1:ps=#[(0,x)]:=by apply Array.ext';rw[qQ]
 have hf:∀B:Array Value,B.size=1->Instr.fill (λi=>some (i,1)) B [(0,ρ x)]=some #[ρ x]:=by
   intro B hB;obtain⟨b,rfl⟩:=Array.size_eq_one_iff.1 hB;simp[Instr.fill,hv]
 have h2:=hf ((Array.range 1).map (z.cells[· % z.cells.size]!)) (by simp);simp only[execOp,ho,e1,Instr.buildSlice,Sem.run_bind,run_underlying hu,Result.andThen_ok,CE hi,hs,Sem.run_ite,zeroValue,typeInfo,run_program,hi,hz,Sem.run_pure,List.map_toArray,List.map_cons,List.map_nil,Nat.mul_one,Nat.one_ne_zero,if_false,gt_iff_lt,show ¬(2 ^ 24 < 1) from by decide,newRow];rw[h2];simp;cases h;cases h;cases h;cases h
end
end AI
