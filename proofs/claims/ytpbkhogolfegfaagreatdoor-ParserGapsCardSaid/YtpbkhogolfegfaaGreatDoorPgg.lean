/- Part of a proof: see the last text. -/
import Derived.Test.YtpbkhogolfegfaaGreatDoorPgf
import Derived.Laws.StructEq
set_option linter.unusedVariables false
set_option linter.unusedSimpArgs false
set_option linter.defProp false
noncomputable section
namespace AI
open Go Go.RowKit
inductive Wn:List AV->List AV->Prop where
 | nil:Wn [] []
 | r {a:AV} {l k:List AV} (t:Wn l k):Wn (a::l) (a::k)
 | s {o:Own} {n:Nat} {cs ds l k:List AV} (h:cs=ds) (t:Wn l k):Wn (.sl o n cs::l) (.sl .lost n ds::k)
 | d {o:Own} {n:Nat} {cs ds es l k:List AV} (h:Wn cs ds) (e:ds=es) (t:Wn l k):Wn (.sl o n cs::l) (.sl .lost n es::k)
 | g {cs ds l k:List AV} (h:Wn cs ds) (t:Wn l k):Wn (.agg cs::l) (.agg ds::k)
 | u {cs ds l k:List AV} (h:Wn cs ds) (t:Wn l k):Wn (.C4 cs::l) (.C4 ds::k)
def Wn.refl:∀l:List AV,Wn l l
 | []=>.nil
 | _::l=>.r (Wn.refl l)
def Wn.len{l k:List AV}(h:Wn l k):l.length=k.length:=by
 induction h with
 | nil=>rfl
 | r _ ih=>simp[ih]
 | s _ _ ih=>simp[ih]
 | d _ _ _ _ ih=>simp[ih]
 | g _ _ _ ih=>simp[ih]
 | u _ _ _ ih=>simp[ih]
section
variable {c:Cx} {w:World}
mutual
def Wn.ok:∀{l k:List AV},Wn l k->∀{vs:List Value},CG c w l vs->CG c w k vs
 | _,_,.nil,_,hr=>hr
 | _,_,.r t,_,hr=>by cases hr with | cons h1 t1=>exact .cons h1 (t.ok t1)
 | _,_,.s h t,_,hr=>by
   subst h;cases hr with
   | cons h1 t1 =>
     refine .cons ?_ (t.ok t1);cases h1 with
     | sl0 _=>exact .sl0 trivial
     | Ll hn hc ho=>exact .Ll hn hc trivial
 | _,_,.d h e t,_,hr=>by
   subst e;cases hr with
   | cons h1 t1 =>
     refine .cons ?_ (t.ok t1);cases h1 with
     | sl0 _=>cases h;exact .sl0 trivial
     | Ll hn hc ho=>exact .Ll hn (h.okC hc) trivial
 | _,_,.g h t,_,hr=>by
   cases hr with
   | cons h1 t1 =>
     refine .cons ?_ (t.ok t1);cases h1 with
     | agg h2=>exact .agg (h.ok h2)
 | _,_,.u h t,_,hr=>by
   cases hr with
   | cons h1 t1 =>
     refine .cons ?_ (t.ok t1);cases h1 with
     | C4 h2=>exact .C4 (h.ok h2)
def Wn.okC:∀{l k:List AV},Wn l k->∀{g o:Nat},Be c w g o l->Be c w g o k
 | _,_,.nil,_,_,hr=>hr
 | _,_,.r t,_,_,hr=>by cases hr with | cons hv h1 t1=>exact .cons hv h1 (t.okC t1)
 | _,_,.s h t,_,_,hr=>by
   subst h;cases hr with
   | cons hv h1 t1 =>
     refine .cons hv ?_ (t.okC t1);cases h1 with
     | sl0 _=>exact .sl0 trivial
     | Ll hn hc ho=>exact .Ll hn hc trivial
 | _,_,.d h e t,_,_,hr=>by
   subst e;cases hr with
   | cons hv h1 t1 =>
     refine .cons hv ?_ (t.okC t1);cases h1 with
     | sl0 _=>cases h;exact .sl0 trivial
     | Ll hn hc ho=>exact .Ll hn (h.okC hc) trivial
 | _,_,.g h t,_,_,hr=>by
   cases hr with
   | cons hv h1 t1 =>
     refine .cons hv ?_ (t.okC t1);cases h1 with
     | agg h2=>exact .agg (h.ok h2)
 | _,_,.u h t,_,_,hr=>by
   cases hr with
   | cons hv h1 t1 =>
     refine .cons hv ?_ (t.okC t1);cases h1 with
     | C4 h2=>exact .C4 (h.ok h2)
end
end
def Wn.UE{a b c d:List AV}(h:Wn a b)(k:Wn c d):Wn (a++c) (b++d):=by
 induction a generalizing b with
 | nil=>cases h;exact k
 | cons x a ih =>
   cases h with
   | r t=>exact .r (ih t)
   | s h t=>exact .s h (ih t)
   | d h e t=>exact .d h e (ih t)
   | g h t=>exact .g h (ih t)
   | u h t=>exact .u h (ih t)
def Rp.wnC{c:Cx}{w:World}{o:Own}{q:Nat}{cs ds:List AV}{u:Value}(h:Wn cs ds)(hr:Rp c w (.sl o q cs) u):Rp c w (.sl o q ds) u:=by
 cases hr with
 | sl0 h0=>cases h;exact .sl0 h0
 | Ll hn hc ho=>exact .Ll hn (h.okC hc) (by rw[<- h.len];exact ho)
def Fits.wn{n m:Nat}{a b:AV}(h:Wn [a] [b])(hp:AI.plain b=true):Fits n m a b:=λc w v hr=>by
 have:=h.ok (.cons hr .nil);cases this with
 | cons h1 _=>exact Fits.plain hp c w v h1
section
variable {P:Program} {G:Bc}
def CN(hm:P.follows .mixedOrders=true)(hG:∀g cs,G g=some cs->BE cs=true){f:FuncId}{args:List AV}{v:AV}(h:WC P G (XS P G) H0 f args s0 (λr _=>∃a,r=.ret a/\Fits 0 0 a v))(hp:BE args=true)(hv:plain v=true):Pure P G f args v:=by
 obtain⟨r,s',hj,a,rfl,hf⟩:=h;have hS:=sound (Sb hm) hj;intro s cx w vs hs GN
 have IQ:∀g i x,Me cx w g i x->Me ⟨w.heap.size,[],[],cx.Z7⟩ w g i x:=by
   intro g i x hx;refine⟨hx.1,λGP=>?_,hx.2.2⟩;rcases GP with GP | ⟨r,n,cap,sz,hr,_⟩ | GP
   cases GP;simp at hr;exact hx.2.1 GP
 have Gm:St G ⟨w.heap.size,[],[],cx.Z7⟩ w s0 :=
   ⟨rfl,trivial,(λi j g h1=>by simp at h1),(λg hg=>by cases hg),(λid g b h1=>by simp at h1),rfl,(λr g n cap sz hr=>by simp at hr),(λr n hr=>by cases hr),(λg hg=>by cases hg),(λg i hb=>hs.Uo hb),(λr r' g n cap sz n' cap' NK hr=>by simp at hr),(λg cs hg=>Be.plain IQ (hG g cs hg) (hs.M1 g cs hg)),Nat.le_refl _⟩
 refine(hS _ w vs Gm (CG.plain IQ hp GN)).mono ?_;rintro e w' ⟨c',hx,_,u,rfl,hu⟩;have OO:=hx.below;obtain⟨x2,UF⟩:=hs.same (w':=w') ⟨OO.os,OO.tape,OO.output,OO.size,λk hk _=>OO.block k hk⟩;refine⟨cx,x2,UF,u,rfl,Rp.plain (c:=c'.upto 0 0) (λg i x jZ=>⟨jZ.1,λGP=>jZ.2.1 (.inr (.inr ?_)),jZ.2.2⟩) hv (hf _ _ _ hu)⟩;show c'.bad g i;rw[hx.bad];exact GP
def Kz(P:Program)(fn:Func)(m:Nat)(Q:AX->List AV->AS->Prop)(v:AV):Prop:=∀a s2,Fits 0 0 a v->RW P fn m Q a s2
def Kz.body{fn:Func}{m:Nat}{v:AV}:Kz P fn m (Tm P fn m (λr _=>∃a,r=.ret a/\Fits 0 0 a v)) v:=λa _ h=>.body ⟨a,rfl,h⟩
def Kz.outer{fn:Func}{m id:Nat}{ks:List KI}{Q:AX->List AV->AS->Prop}{v:AV}(h:Kz P fn m Q v):Kz P fn m (EN id (Ed P G ks Q)) v:=λa s2 hf=>(h a s2 hf).outer
def S4{δ J:Type}(Q:AX->List AV->AS->Prop)(id:Nat)(F:δ->J->List AV)(S:δ->J->AS)(Ok:J->Prop)(d:δ):Prop:=∀j,Ok j->Q (.exit id) (F d j) (S d j)
def aqR(P:Program)(fn:Func):HR->Option (List Cd×AV)
 | some (.fin .ret,[],cd,fr,s)=>(match GM P s fn fr with
   | some v=>some (cd,v)
   | none=>none)
 | _=>none
def Ax{r:HR}{X:Prop}{Q:AX->List AV->AS->Prop}{v w:AV}(fn:Func)(m:Nat){l:List (PC P G)}(R:UL P G l Q r X)(h:aqR P fn r=some (hJ l,v))(k:Kz P fn m Q w)(hf:Fits 0 0 v w):X:=by
 unfold aqR at h;split at h;rename_i cd fr' s';split at h;rename_i v' hv;simp only[Option.some.injEq,Prod.mk.injEq] at h;obtain⟨rfl,rfl⟩:=h;exact R _ _ _ _ rfl (Oh l) (k _ _ hf _ _ hv rfl);cases h;cases h
def Kz.Ge{fn:Func}{m:Nat}{L:Code}{s0:AS}{Q:AX->List AV->AS->Prop}{v:AV}(h:Kz P fn m Q v):Kz P fn m (Um P G L s0 Q) v:=h
def L8{δ ρ β:Type}(k:δ->Option β)(kr:ρ->Option β):δ⊕ρ->Option β
 | .inl d=>k d
 | .inr v=>kr v
def pk:PC P G:=⟨.k,[],trivial⟩
def pb{B b:Bool}(h:B=b):PC P G:=⟨.b b,[.eqb B b],⟨h,trivial⟩⟩
def pn{B b:Bool}(h:B=b):PC P G:=⟨.b (!b),[.eqb (!B) (!b)],⟨by show(!B)=(!b);rw[h],trivial⟩⟩
def azZ{i:Nat}(h:i < 9223372036854775807):Nq .i64 (abT ((i:Nat):Int) 1)=((i+1:Nat):Int):=by
 rw[Vw,cW];have:=akY (i:=i+1) (by omega);rw[<- this];rfl
def aPH(i:Nat)(h:i < 9223372036854775807):PC P G:=⟨.i ((i+1:Nat):Int),[.eqi (Nq .i64 (abT ((i:Nat):Int) 1)) ((i+1:Nat):Int)],⟨azZ h,trivial⟩⟩
def AG{f:FuncId}{args:List AV}{v:AV}(h:Pure P G f args v):PC P G:=⟨.w v,[.pur f args v],⟨h,trivial⟩⟩
def I0{f:FuncId}{args Wl:List AV}{v:AV}(w:Wn args Wl)(h:Pure P G f Wl v):PC P G:=⟨.w v,[.pur f args v],⟨λs cx wd vs hs ha=>h s cx wd vs hs (w.ok ha),trivial⟩⟩
def IR{t:TypeId}{a b v:AV}(h:CH P t a b=some v):PC P G:=⟨.w v,[.idx t a b v],⟨h,trivial⟩⟩
def Sn{t:TypeId}{a b v:AV}(h:Lm P t a b=some v):PC P G:=⟨.w v,[.ix t a b v],⟨h,trivial⟩⟩
def Qf{op:BinOp}{t:TypeId}{x y:Operand}{a b v:AV}(h:MZ P op t x y a b=some v):PC P G:=⟨.w v,[.bin op t x y a b v],⟨h,trivial⟩⟩
def OV{t:TypeId}{a:AV}{l h m:Option AV}{v:AV}(e:LZ P t a l h m=some v):PC P G:=⟨.o v,[.sli t a l h m v],⟨e,trivial⟩⟩
def BF(a b:Int):Int:=Nq .i64 (abT a b)
def LS(a b:Int):Int:=Nq .i64 (fY a b)
def BS(a b:Int):Int:=Nq .i64 (a*b)
def Ha{α:Type}(l:List α)(z:Int):Option α:=if 0<=z then l[z.toNat]? else none
structure OM{α:Type}(f:α->List AV)(C:List α->List AV)(k:Nat):Prop where
 eq:∀l,C l=rows f l
 len:∀x,(f x).length=k
 pl:∀x,BE (f x)=true
def OM.UE{α:Type}{f:α->List AV}{C:List α->List AV}{k:Nat}(h:OM f C k)(l m:List α):C (l++m)=C l++C m:=by rw[h.eq,h.eq,h.eq,MQ]
def OM.cons{α:Type}{f:α->List AV}{C:List α->List AV}{k:Nat}(h:OM f C k)(x:α)(m:List α):C (x::m)=f x++C m:=by rw[h.eq,h.eq,FC]
def OM.A3{α:Type}{f:α->List AV}{C:List α->List AV}{k:Nat}(h:OM f C k)(l:List α):BE (C l)=true:=by rw[h.eq];exact rH λx _=>h.pl x
def OM.Ks{α:Type}{f:α->List AV}{C:List α->List AV}{k:Nat}(h:OM f C k)(l:List α):plain (.sl .lost l.length (C l))=true:=by simp only[plain,h.A3];rfl
def OM.Cr{α:Type}{f:α->List AV}{C:List α->List AV}{k:Nat}(h:OM f C k)(x:α):plain (.agg (f x))=true:=h.pl x
def OM.ix{α:Type}{f:α->List AV}{C:List α->List AV}{k:Nat}(h:OM f C k){t elem:TypeId}(hu:P.underlying t=some (.slice elem))(hs:(P.info? elem).map (·.size)=some k)(own:Own){l:List α}{i:Nat}{x:α}(hx:l[i]?=some x):CH P t (.sl own l.length (C l)) (.sc (.int .i64 ((i:Nat):Int)))=some (.el (f x++C (l.drop (i+1)))):=by
 cases hi:P.info? elem with
 | none=>rw[hi] at hs;cases hs
 | some e =>
   rw[hi] at hs;rw[h.eq,h.eq];exact pV hu hi (by simpa using hs) h.len hx
def OM.ixz{α:Type}{f:α->List AV}{C:List α->List AV}{k:Nat}(h:OM f C k){t elem:TypeId}(hu:P.underlying t=some (.slice elem))(hs:(P.info? elem).map (·.size)=some k)(own:Own){l:List α}{z:Int}{x:α}(hx:Ha l z=some x):CH P t (.sl own l.length (C l)) (.sc (.int .i64 z))=some (.el (f x++C (l.drop (z.toNat+1)))):=by
 unfold Ha at hx;split at hx;rename_i hz;have:=h.ix hu hs own hx;rwa[Int.toNat_of_nonneg hz] at this;cases hx
def OM.wn{α:Type}{f:α->List AV}{C:List α->List AV}{k:Nat}(h:OM f C k)(m:List α){a:List AV}(w:Wn a (rows f m)):Wn a (C m):=by rw[h.eq];exact w
def WK{α:Type}{f:α->List AV}{k:Nat}(hf:∀x,(f x).length=k)(l:List α)(i:Nat):(rows f l).drop (i*k)=rows f (l.drop i):=by
 induction l generalizing i with
 | nil=>simp[rows]
 | cons x l ih =>
   cases i with
   | zero=>simp
   | succ i =>
     rw[FC,List.drop_append,hf x,List.drop_eq_nil_of_le (by rw[hf x,Nat.add_mul];omega),List.nil_append,List.drop_succ_cons,<- ih i];congr 1;rw[Nat.add_mul];omega
def WM{α:Type}{f:α->List AV}{k:Nat}(hf:∀x,(f x).length=k)(l:List α)(i:Nat):(rows f l).take (i*k)=rows f (l.take i):=by
 induction l generalizing i with
 | nil=>simp[rows]
 | cons x l ih =>
   cases i with
   | zero=>simp[rows]
   | succ i =>
     rw[FC,List.take_append,hf x,List.take_of_length_le (by rw[hf x,Nat.add_mul];omega),List.take_succ_cons,FC,<- ih i];congr 2;rw[Nat.add_mul];omega
def OM.sub{α:Type}{f:α->List AV}{C:List α->List AV}{k:Nat}(h:OM f C k){t elem:TypeId}(hu:P.underlying t=some (.slice elem))(hs:(P.info? elem).map (·.size)=some k)(l q:Nat){s:List α}(h1:l<=q)(h2:q<=s.length)(lo hi:Option AV)(e1:NX 0 lo=some l)(e2:NX s.length hi=some q) :
   LZ P t (.sl .lost s.length (C s)) lo hi none=some (.sl .lost ((s.drop l).take (q - l)).length (C ((s.drop l).take (q - l)))):=by
 cases Nl:P.info? elem with
 | none=>rw[Nl] at hs;cases hs
 | some e =>
   rw[Nl] at hs;have hk:e.size=k:=by simpa using hs
   unfold LZ;simp only[hu,Nl,e1,e2,hk];rw[if_pos ⟨h1,h2,by rw[h.eq,HV h.len]⟩]
   have e3:(if l=0/\q=s.length then Own.lost else if q=s.length/\Own.lost=.full then .full else .lost)=.lost:=by
     split;rfl;split;rename_i hq;exact absurd hq.2 (by decide);rfl
   rw[e3,h.eq,h.eq,WK h.len,WM h.len];congr 2;simp;omega
def evt{β:Type}(f:Nat->Option β):Option β:=open Classical in if h:∃y,∃n0:Nat,∀n,n0<=n->f n=some y then some (Classical.choose h) else none
def xX{β:Type}{f:Nat->Option β}{y:β}(h:evt f=some y):∃n,f n=some y:=by
 unfold evt at h;split at h;rename_i hx;obtain⟨n0,hn⟩:=Classical.choose_spec hx;rw[Option.some.inj h] at hn;exact⟨n0,hn n0 (Nat.le_refl _)⟩;cases h
def Yj{β:Type}{f:Nat->Option β}{y:β}(n0:Nat)(h:∀n,n0<=n->f n=some y):evt f=some y:=by
 unfold evt;have hx:∃y,∃n0:Nat,∀n,n0<=n->f n=some y:=⟨y,n0,h⟩;rw[dif_pos hx];obtain⟨n1,hn⟩:=Classical.choose_spec hx;have h1:=h (max n0 n1) (Nat.le_max_left _ _);have h2:=hn (max n0 n1) (Nat.le_max_right _ _);rw[h1] at h2;rw[Option.some.inj h2]
def M6{β:Type}(n:Nat)(x:Option β):Option β:=if n<=100000000 then x else none
def agG{β:Type}{n:Nat}{x:Option β}{r:β}(h:M6 n x=some r):n<=100000000/\x=some r:=by
 unfold M6 at h;split at h;rename_i h1;exact⟨h1,h⟩;cases h
def OM.Ws{α:Type}{f:α->List AV}{C:List α->List AV}{k:Nat}(h:OM f C k){t tx e e2 by':Nat}(hu:P.underlying t=some (.slice e))(hux:P.underlying tx=some (.slice e2))(hi:(P.info? e).map (λi=>(i.size,i.bytes,i.zero.map (·.cells.size)))=some (k,by',some k))(hk:0 < k)(hb:by'<=10000)
   (own:Own) (l m:List α) {o:Own} {n:Nat} {ns:List AV} (hn:Wn ns (C m)) (eE:n=m.length) (ho:ns.all one=true) (hm:m.length≠0) (hlen:l.length+m.length<=100000000):Cd.ok P G (.Ws t tx own l.length (C l) (.sl o n ns) k (l++m).length (C (l++m))):=by
 subst eE;cases hq:P.info? e with
 | none=>rw[hq] at hi;cases hi
 | some i =>
   rw[hq] at hi;simp only[Option.map_some,Option.some.injEq,Prod.mk.injEq] at hi;obtain⟨h1,h2,h3⟩:=hi;cases hz:i.zero with
   | none=>rw[hz] at h3;cases h3
   | some z =>
     rw[hz] at h3;simp only[Option.map_some,Option.some.injEq] at h3;intro s N9;have hnl:ns.length=m.length*k:=by rw[hn.len,h.eq,HV h.len]
     have pL:(C l).length=l.length*k:=by rw[h.eq,HV h.len]
     refine⟨C l++ns,?_,λc w u o' hr=>?_⟩
     have hs:UP P s i.size tx (.sl o m.length ns)=some (m.length,ns):=by
       unfold UP;rw[hux,h1];simp only[hnl,if_true]
     unfold KL;simp only[hu,hq,hz];rw[if_pos ⟨by rw[h3,h1],by omega⟩,hs];simp only
     have hbb:(l.length+m.length)*i.bytes<=140737488355328:=by
       rw[h2];exact Nat.le_trans (Nat.mul_le_mul hlen hb) (by decide)
     rw[if_pos ⟨by rw[pL,h1],ho,hbb,by omega⟩,if_neg hm,h1,if_pos N9,List.length_append];rw[h.UE];exact Rp.wnC (Wn.UE (Wn.refl (C l)) hn) hr
def Qg{t tx:TypeId}{own:Own}{n:Nat}{cs:List AV}{b:AV}{sz k:Nat}{cs2:List AV}(h:Cd.ok P G (.Ws t tx own n cs b sz k cs2)):PC P G :=
 match own with
 | .row r z=>⟨.g sz k cs2,[.Ws t tx (.row r z) n cs b sz k cs2,.eqn n n],⟨h,rfl,trivial⟩⟩
 | .full=>⟨.g sz k cs2,[.Ws t tx .full n cs b sz k cs2],⟨h,trivial⟩⟩
 | _=>⟨.g sz k cs2,[],trivial⟩
def A3{a:AV}{l:List AV}(h:plain a=true)(t:BE l=true):BE (a::l)=true:=by simp only[BE,h,t];rfl
def avT{a b:List AV}(ha:BE a=true)(hb:BE b=true):BE (a++b)=true:=by
 induction a with
 | nil=>exact hb
 | cons x a ih =>
   simp only[BE,Bool.and_eq_true,List.cons_append] at ha ⊢;exact⟨ha.1,ih ha.2⟩
def Ky{n m:Nat}{a:AV}{l:List AV}(h:under n m a=true)(t:FD n m l=true):FD n m (a::l)=true:=by simp only[FD,h,t];rfl
end
end AI
namespace AI
open Go Go.RowKit
def Ke{P:Program}{α β:Type}(m:Sem α)(f:α->Sem β):pv P (m >>= f)=(pv P m).bind λa=>pv P (f a):=by
 show pv P (m.bind f)=_
 induction m with
 | pure a=>rfl
 | program k ih=>exact ih P
 | mark _ k ih=>exact ih
 | _=>rfl
def NF{P:Program}{α:Type}(a:α):pv P (pure a:Sem α)=some a:=rfl
def Ue{P:Program}:pv P program=some P:=rfl
def KD{P:Program}{t:TypeId}{d:TypeDesc}(h:P.underlying t=some d):pv P (underlying t)=some d:=by
 unfold underlying;rw[Ke,Ue];simp only[Option.bind_some,h];rfl
def aBL{P:Program}{α:Type}(c:Prop)[Decidable c](a b:Sem α):pv P (if c then a else b)=if c then pv P a else pv P b:=by split<;>rfl
def Vh{P:Program}(d:Nat)(t:TypeId)(xs ys:Array Value)(ht:P.underlying t=some (.struct (P.fieldsOf t)))(hp:P.stoodInHeld t=false) :
   pv P (Op.equalIn (d+1) t (.agg xs) (.agg ys))=pv P (Op.eqFields d xs ys (P.fieldsOf t).toList):=by
 simp only[Op.equalIn,Ke,KD ht,Option.bind_some,Ue,hp,Bool.false_eq_true,if_false];rw[<- Array.forIn_toList];generalize (P.fieldsOf t).toList=fs;clear ht
 induction fs with
 | nil=>simp[Op.eqFields,NF]
 | cons f fs ih =>
   simp only[List.forIn_cons,Op.eqFields,Ke,aBL];split
   · generalize pv P (part f.type xs f.offset)=r1
     cases r1 with
     | none=>simp
     | some a =>
       simp only[Option.bind_some];generalize pv P (part f.type ys f.offset)=r2;cases r2 with
       | none=>simp
       | some b =>
         simp only[Option.bind_some];generalize pv P (Op.equalIn d f.type a b)=r3;cases r3 with
         | none=>simp
         | some r =>
           cases r;simp[NF];simp only[Option.bind_some,Bool.not_true,Bool.false_eq_true,if_false,NF];exact ih
   simp only[NF,Option.bind_some];exact ih
def aqI{P:Program}{t:TypeId}{k:IntKind}(h:P.underlying t=some (.int k))(cs:Array Value)(off:Nat){v:Value}(hv:cs[off]?=some v):pv P (part t cs off)=some v:=by
 unfold part isAgg;simp[Ke,KD h,NF,hv]
def Y4{P:Program}(d:Nat){t:TypeId}{k k':IntKind}(a b:Int)(h:P.underlying t=some (.int k')):pv P (Op.equalIn (d+1) t (.int k a) (.int k b))=some (a == b):=by
 simp[Op.equalIn,Ke,KD h,NF]
def lF{P:Program}(op:BinOp)(t:TypeId)(x y:Operand)(xs ys:Array Value)(hm:P.eqGuardType P.depth t=false):pv P (eqGuard op t x y (.agg xs) (.agg ys))=some ():=by
 cases op<;>simp[eqGuard,Ke,Ue,hm,NF]
def Sa(P:Program)(t:TypeId):Nat:=match P.underlying t with
 | some (.int _)=>1
 | some .string=>2
 | _=>0
def fEq:Value->Value->Option Bool
 | .int k a,.int k' b=>if k=k' then some (a == b) else none
 | .string a,.string b=>some (a == b)
 | _,_=>none
def ZK:List Value->List Value->Option Bool
 | [],[]=>some true
 | a::as,b::bs=>(fEq a b).bind λr=>(match r with | true=>ZK as bs | false=>some false)
 | _,_=>none
def lG{P:Program}{t:TypeId}(h:Sa P t≠0)(cs:Array Value)(off:Nat){v:Value}(hv:cs[off]?=some v):pv P (part t cs off)=some v:=by
 unfold Sa at h;split at h;rename_i h1;exact aqI h1 cs off hv;rename_i h1;unfold part isAgg;simp[Ke,KD h1,NF,hv];exact absurd rfl h
def aBK{P:Program}(d:Nat){t:TypeId}{a b:Value}{r:Bool}(hk:(∃k n m,a=.int k n/\b=.int k m/\Sa P t=1)\/(∃x y,a=.string x/\b=.string y/\Sa P t=2))(h:fEq a b=some r):pv P (Op.equalIn (d+1) t a b)=some r:=by
 rcases hk with ⟨k,n,m,rfl,rfl,hk⟩ | ⟨x,y,rfl,rfl,hk⟩
 unfold Sa at hk;split at hk;rename_i h1;simp only[fEq,if_true] at h;rw[Y4 d n m h1];exact h;cases hk;cases hk;unfold Sa at hk;split at hk;cases hk;rename_i h1;simp only[fEq] at h;rw[<- h];simp[Op.equalIn,Ke,KD h1,NF];cases hk
def jG:List Nat->List Value->Prop
 | [],[]=>True
 | k::ks,v::vs=>((∃n,v=.int .i64 n/\k=1)\/(∃x,v=.string x/\k=2))/\jG ks vs
 | _,_=>False
def zT{P:Program}(d:Nat):∀(fs:List Field) (off:Nat) (ks:List Nat) (xs ys:List Value) (us vs:List Value) (r:Bool),fs.map (λf=>Sa P f.type)=ks->(∀(i:Nat) f,fs[i]?=some f->f.name≠"_"/\f.offset=off+i)->xs.drop off=us->ys.drop off=vs->jG ks us->jG ks vs->ZK us vs=some r->pv P (Op.eqFields (d+1) xs.toArray ys.toArray fs)=some r:=by
 intro fs
 induction fs with
 | nil =>
   intro off ks xs ys us vs r gZ _ hx hy h1 h2 h;cases ks with
   | cons=>cases gZ
   | nil =>
     cases us<;>cases vs<;>simp only[jG,ZK] at h1 h2 h
     rw[<- h];rfl
 | cons f fs ih =>
   intro off ks xs ys us vs r gZ hf hx hy h1 h2 h;cases ks with
   | nil=>cases gZ
   | cons k ks =>
     cases us with
     | nil=>cases h1
     | cons u us =>
       cases vs with
       | nil=>cases h2
       | cons v vs =>
         simp only[List.map_cons,List.cons.injEq] at gZ;obtain⟨hk,gZ⟩:=gZ;obtain⟨hn,ho⟩:=hf 0 f rfl;rw[Nat.add_zero] at ho;have hxu:xs.toArray[off]?=some u:=by rw[List.getElem?_toArray,<- List.head?_drop,hx];rfl
         have hyv:ys.toArray[off]?=some v:=by rw[List.getElem?_toArray,<- List.head?_drop,hy];rfl
         have hk0:Sa P f.type≠0:=by
           rw[hk];rcases h1.1 with ⟨_,_,e⟩ | ⟨_,_,e⟩<;>omega
         have hkk:(∃k n m,u=.int k n/\v=.int k m/\Sa P f.type=1)\/(∃x y,u=.string x/\v=.string y/\Sa P f.type=2):=by
           rw[hk];rcases h1.1 with ⟨n,e1,e2⟩ | ⟨n,e1,e2⟩<;>rcases h2.1 with ⟨m,e3,e4⟩ | ⟨m,e3,e4⟩
           exact .inl ⟨_,n,m,e1,e3,e2⟩;omega;omega;exact .inr ⟨n,m,e1,e3,e2⟩
         simp only[ZK] at h;cases hq:fEq u v with
         | none=>rw[hq] at h;cases h
         | some q =>
           rw[hq] at h;simp only[Op.eqFields,hn,ne_eq,not_false_eq_true,if_true,ho];simp only[Ke,lG hk0 xs.toArray off hxu,lG hk0 ys.toArray off hyv,Option.bind_some,aBK d hkk hq];cases q with
           | false =>
             have:r=false:=by simpa using h.symm
             subst this;rfl
           | true =>
             have ih:=ih (off+1) ks xs ys us vs r gZ (λi f' hi=>by
               have:=hf (i+1) f' (by simpa using hi)
               exact⟨this.1,by rw[this.2];omega⟩) (by rw[<- List.tail_drop,hx];rfl) (by rw[<- List.tail_drop,hy];rfl) h1.2 h2.2 (by simpa using h)
             simpa using ih
structure Flat(P:Program)(t:TypeId)(ks:List Nat):Prop where
 st:P.underlying t=some (.struct (P.fieldsOf t))
 hp:P.stoodInHeld t=false
 hm:P.eqGuardType P.depth t=false
 kd:(P.fieldsOf t).toList.map (λf=>Sa P f.type)=ks
 nm:(P.fieldsOf t).toList.map (λf=>decide (f.name≠"_"))=List.replicate ks.length true
 of:(P.fieldsOf t).toList.map (λf=>f.offset)=List.range ks.length
def aaW(vs:List Value):Pf (vs.map .sc)=some vs:=by
 induction vs with
 | nil=>rfl
 | cons v vs ih=>simp[Pf,Zm,ih]
def Flat.pv{P:Program}{t:TypeId}{ks:List Nat}(h:Flat P t ks){us vs:List Value}{r:Bool}(h1:jG ks us)(h2:jG ks vs)(h3:ZK us vs=some r):AI.pv P (Op.equalIn (9998+1+1) t (.agg us.toArray) (.agg vs.toArray))=some r:=by
 rw[Vh _ _ _ _ h.st h.hp];refine zT 9998 _ 0 ks us vs us vs r h.kd (λi f hf=>?_) rfl rfl h1 h2 h3
 have hl:i < ks.length:=by
   have:=(List.getElem?_eq_some_iff.1 hf).1;have h5:=congrArg List.length h.kd;simp at h5 this;omega
 have a1:=congrArg (λl=>l[i]?) h.nm;have a2:=congrArg (λl=>l[i]?) h.of;simp only[List.getElem?_map,hf,Option.map_some,List.getElem?_replicate,hl,if_true,Option.some.injEq,decide_eq_true_eq] at a1;simp only[List.getElem?_map,hf,Option.map_some,List.getElem?_range hl,Option.some.injEq] at a2;exact⟨a1,by omega⟩
def Flat.bin{P:Program}{t:TypeId}{ks:List Nat}(h:Flat P t ks){us vs:List Value}{r:Bool}(h1:jG ks us)(h2:jG ks vs)(h3:ZK us vs=some r)(x y:Operand) :
   MZ P .eql t x y (.agg (us.map .sc)) (.agg (vs.map .sc))=some (.sc (.bool r))/\MZ P .neq t x y (.agg (us.map .sc)) (.agg (vs.map .sc))=some (.sc (.bool (!r))):=by
 have ht:∀l:List Value,Vm (.agg (l.map .sc))=some (.agg l.toArray):=λl=>by simp only[Vm,aaW,Option.map_some]
 have hv:=h.pv h1 h2 h3
 have e1:AI.pv P (do eqGuard .eql t x y (.agg us.toArray) (.agg vs.toArray);binOp .eql t (.agg us.toArray) (.agg vs.toArray))=some (.bool r):=by
   rw[Ke,lF _ _ _ _ _ _ h.hm];simp only[Option.bind_some,binOp,Ke,Op.equal,Op.maxDepth];rw[show(10000:Nat)=9998+1+1 from rfl,hv];rfl
 have e2:AI.pv P (do eqGuard .neq t x y (.agg us.toArray) (.agg vs.toArray);binOp .neq t (.agg us.toArray) (.agg vs.toArray))=some (.bool (!r)):=by
   rw[Ke,lF _ _ _ _ _ _ h.hm];simp only[Option.bind_some,binOp,Ke,Op.equal,Op.maxDepth];rw[show(10000:Nat)=9998+1+1 from rfl,hv];rfl
 refine⟨?_,?_⟩;show Ti _ _ _ _ _ (.agg _) (.agg _)=_;unfold Ti;simp only[ht,e1,Option.bind_some];rfl;show Ti _ _ _ _ _ (.agg _) (.agg _)=_;unfold Ti;simp only[ht,e2,Option.bind_some];rfl
def aDA(x y:Int):Int:=if y > x then y else x
end AI
namespace AI
open Go Go.RowKit
mutual
inductive Rn(k j:Nat)(ρ σ:Nat->Nat):AV->AV->Prop where
 | pl {a:AV} (h:plain a=true):Rn k j ρ σ a a
 | ptr {i off:Nat} (h:i < k):Rn k j ρ σ (.ptr i off) (.ptr (ρ i) off)
 | mp {i:Nat} (h:i < k):Rn k j ρ σ (.mp i) (.mp (ρ i))
 | msl {i off n:Nat} (h:i < k):Rn k j ρ σ (.msl i off n) (.msl (ρ i) off n)
 | row {r sz n:Nat} {cs:List AV} (h:r < j) (hp:BE cs=true):Rn k j ρ σ (.sl (.row r sz) n cs) (.sl (.row (σ r) sz) n cs)
 | agg {cs ds:List AV} (h:UK k j ρ σ cs ds):Rn k j ρ σ (.agg cs) (.agg ds)
 | C4 {cs ds:List AV} (h:UK k j ρ σ cs ds):Rn k j ρ σ (.C4 cs) (.C4 ds)
 | fn {f:Fn} {a a' b b':List AV} (h1:UK k j ρ σ a a') (h2:UK k j ρ σ b b'):Rn k j ρ σ (.fn f a b) (.fn f a' b')
inductive UK(k j:Nat)(ρ σ:Nat->Nat):List AV->List AV->Prop where
 | nil:UK k j ρ σ [] []
 | cons {a b:AV} {l m:List AV} (h:Rn k j ρ σ a b) (t:UK k j ρ σ l m):UK k j ρ σ (a::l) (b::m)
end
inductive wT(k j:Nat)(ρ σ:Nat->Nat):AM->AM->Prop where
 | cells {cs ds:List AV} (h:UK k j ρ σ cs ds):wT k j ρ σ (.cells cs) (.cells ds)
 | map {es:List (Value×AV×Nat)} {cl:Nat} (h:∀e∈es,plain e.2.1=true):wT k j ρ σ (.map es cl) (.map es cl)
def UK.pl{k j:Nat}{ρ σ:Nat->Nat}:∀{l:List AV},BE l=true->UK k j ρ σ l l
 | [],_=>.nil
 | a::l,h=>by
   simp only[BE,Bool.and_eq_true] at h;exact .cons (.pl h.1) (UK.pl h.2)
section
variable {c c':Cx} {w w':World} {k j:Nat} {ρ σ:Nat->Nat}
structure Dn(k j:Nat)(ρ σ:Nat->Nat)(c:Cx)(w:World)(c0:Cx)(w0:World):Prop where
 aB:∀g i v,Me c w g i v->Me c0 w0 g i v
 CX:∀i g,i < k->c.CX[ρ i]?=some (some g)->c0.CX[i]?=some (some g)
 rows:∀r,r < j->∃x,c.rows[σ r]?=some x/\c0.rows[r]?=some x
structure Up(k j:Nat)(ρ σ:Nat->Nat)(c0:Cx)(w0:World)(c:Cx)(w:World):Prop where
 aB:∀g i v,Me c0 w0 g i v->Me c w g i v
 CX:∀i g,i < k->c0.CX[i]?=some (some g)->c.CX[ρ i]?=some (some g)
 rows:∀r,r < j->∃x,c.rows[σ r]?=some x/\c0.rows[r]?=some x
mutual
def Rn.down(d:Dn k j ρ σ c w c' w'):∀{a b:AV} {v:Value},Rn k j ρ σ a b->Rp c w b v->Rp c' w' a v:=by
 intro a b v hn h;cases hn with
 | pl hp=>exact h.plain d.aB hp
 | ptr hi=>cases h with | ptr h1=>exact .ptr (d.CX _ _ hi h1)
 | mp hi=>cases h with | mp h1=>exact .mp (d.CX _ _ hi h1)
 | msl hi=>cases h with | msl hn h1=>exact .msl hn (d.CX _ _ hi h1)
 | @row r sz n cs hr hp =>
   obtain⟨x,hx,hx0⟩:=d.rows r hr;have hl:=(List.getElem?_eq_some_iff.1 hx0).1;cases h with
   | sl0 h0=>exact .sl0 ⟨h0.1,hl⟩
   | Ll hn hc ho =>
     refine .Ll hn (hc.plain d.aB hp) ⟨ho.1,ho.2.1,hl,λe=>ho.2.2.2.1 ?_,λg' n' cap' NK e=>ho.2.2.2.2 g' n' cap' NK ?_⟩;rw[hx,<- hx0];exact e;rw[hx,<- hx0];exact e
 | agg h1=>cases h with | agg h2=>exact .agg (UK.down d h1 h2)
 | C4 h1=>cases h with | C4 h2=>exact .C4 (UK.down d h1 h2)
 | fn h1 h2=>cases h with | fn h3 h4=>exact .fn (UK.down d h1 h3) (UK.down d h2 h4)
def UK.down(d:Dn k j ρ σ c w c' w'):∀{a b:List AV} {v:List Value},UK k j ρ σ a b->CG c w b v->CG c' w' a v:=by
 intro a b v hn h;cases hn with
 | nil=>cases h;exact .nil
 | cons h1 t=>cases h with | cons h2 t2=>exact .cons (Rn.down d h1 h2) (UK.down d t t2)
end
mutual
def Rn.up(d:Up k j ρ σ c w c' w'):∀{a b:AV} {v:Value},Rn k j ρ σ a b->Rp c w a v->Rp c' w' b v:=by
 intro a b v hn h;cases hn with
 | pl hp=>exact h.plain d.aB hp
 | ptr hi=>cases h with | ptr h1=>exact .ptr (d.CX _ _ hi h1)
 | mp hi=>cases h with | mp h1=>exact .mp (d.CX _ _ hi h1)
 | msl hi=>cases h with | msl hn h1=>exact .msl hn (d.CX _ _ hi h1)
 | @row r sz n cs hr hp =>
   obtain⟨x,hx,hx0⟩:=d.rows r hr;have hl:=(List.getElem?_eq_some_iff.1 hx).1;cases h with
   | sl0 h0=>exact .sl0 ⟨h0.1,hl⟩
   | Ll hn hc ho =>
     refine .Ll hn (hc.plain d.aB hp) ⟨ho.1,ho.2.1,hl,λe=>ho.2.2.2.1 ?_,λg' n' cap' NK e=>ho.2.2.2.2 g' n' cap' NK ?_⟩;rw[hx0,<- hx];exact e;rw[hx0,<- hx];exact e
 | agg h1=>cases h with | agg h2=>exact .agg (UK.up d h1 h2)
 | C4 h1=>cases h with | C4 h2=>exact .C4 (UK.up d h1 h2)
 | fn h1 h2=>cases h with | fn h3 h4=>exact .fn (UK.up d h1 h3) (UK.up d h2 h4)
def UK.up(d:Up k j ρ σ c w c' w'):∀{a b:List AV} {v:List Value},UK k j ρ σ a b->CG c w a v->CG c' w' b v:=by
 intro a b v hn h;cases hn with
 | nil=>cases h;exact .nil
 | cons h1 t=>cases h with | cons h2 t2=>exact .cons (Rn.up d h1 h2) (UK.up d t t2)
end
def KR.plain(hv:∀g i v,Me c w g i v->Me c' w' g i v):∀{es:List (Value×AV×Nat)} {fs:List MapEntry},(∀e∈es,AI.plain e.2.1=true)->KR c w es fs->KR c' w' es fs:=by
 intro es
 induction es with
 | nil=>intro fs _ h;cases h;exact .nil
 | cons e es ih =>
   intro fs hp h;cases h with | cons h1 t=>exact .cons (h1.plain hv (hp _ List.mem_cons_self)) (ih (λx hx=>hp x (List.mem_cons_of_mem _ hx)) t)
def wT.down(d:Dn k j ρ σ c w c' w'){a b:AM}{o:Obj}(hn:wT k j ρ σ a b)(h:Fk c w b o):Fk c' w' a o:=by
 cases hn with
 | cells h1=>cases h with | H6 ext h2=>exact .H6 ext (UK.down d h1 h2)
 | map hp=>cases h with | map h2=>exact .map (h2.plain d.aB hp)
def wT.up(d:Up k j ρ σ c w c' w'){a b:AM}{o:Obj}(hn:wT k j ρ σ a b)(h:Fk c w a o):Fk c' w' b o:=by
 cases hn with
 | cells h1=>cases h with | H6 ext h2=>exact .H6 ext (UK.up d h1 h2)
 | map hp=>cases h with | map h2=>exact .map (h2.plain d.aB hp)
end
structure Upd(k j:Nat)(ρ σ:Nat->Nat)(h2:List (Nat×AM))(F2:List (Nat×Nat))(s s2:AS):Prop where
 nx:s2.nx=s.nx
 nr:s2.nr=s.nr
 desc:∀n,JN s.h n->JN s2.h n
 get:∀id b,s2.get id=some b->(∃i b0,i < k/\id=ρ i/\look i h2=some b0/\wT k j ρ σ b0 b)\/((∀i,i < k->id≠ρ i)/\s.get id=some b)
 tok:∀q n,D8 q s2.F=some n->(∃r,r < j/\q=σ r/\D8 r F2=some n)\/((∀r,r < j->q≠σ r)/\D8 q s.F=some n)
def RnR(k j:Nat)(ρ σ:Nat->Nat):CR->CR->Prop
 | .ret v,.ret v'=>Rn k j ρ σ v v'
 | .pan v,.pan v'=>Rn k j ρ σ v v'
 | _,_=>False
def ayG{P:Program}{G:Bc}(hG:∀g cs,G g=some cs->BE cs=true){f:FuncId}{args X0:List AV}{r r':CR}{hm h2:List (Nat×AM)}{k j:Nat}{Fm F2:List (Nat×Nat)}(h:Sound P G (.call f args ⟨hm,k,Fm,j⟩ r ⟨h2,k,F2,j⟩))(hd:JN hm k)
   (ρ σ:Nat->Nat) (aNE:∀i i',i < k->i' < k->ρ i=ρ i'->i=i') (avG:∀i i',i < j->i' < j->σ i=σ i'->i=i') (GN:UK k j ρ σ args X0)
   {s s2:AS} (Px:∀i b,i < k->look i hm=some b->∃b',s.get (ρ i)=some b'/\wT k j ρ σ b b')
   (Sd:∀cx w vs,St G cx w s->CG cx w X0 vs->∀i,i < k->∃g,cx.CX[ρ i]?=some (some g))
   (aFU:∀q n,q < j->D8 q Fm=some n->D8 (σ q) s.F=some n) (aFT:∀q,q < j->∃n,D8 q Fm=some n) (hFm:∀q n,D8 q Fm=some n->q < j)
   (hr:RnR k j ρ σ r r')
   (hu:Upd k j ρ σ h2 F2 s s2):Sound P G (.call f X0 s r' s2):=by
 intro cx w vs hs ha;have hph:=Sd cx w vs hs ha
 have hg:∀i:Nat,∃g,i < k->cx.CX[ρ i]?=some (some g):=λi=>by
   by_cases hi:i < k;obtain⟨g,hg⟩:=hph i hi;exact⟨g,λ_=>hg⟩;exact⟨0,λh=>absurd h hi⟩
 obtain⟨gs,hgs⟩:=Classical.axiomOfChoice hg
 have hrw:∀q:Nat,∃x,q < j->cx.rows[σ q]?=some x:=λq=>by
   by_cases hq:q < j;obtain⟨n,hn⟩:=aFT q hq;rcases hs.Je _ _ (aFU q n hq hn) with ⟨h1,_⟩ | ⟨g,cap,sz,h1⟩
   exact⟨_,λ_=>h1⟩;exact⟨_,λ_=>h1⟩;exact⟨.gone,λh=>absurd h hq⟩
 obtain⟨rw,hrw⟩:=Classical.axiomOfChoice hrw;have pM:∀i,i < k->some (gs i)∈cx.CX:=λi hi=>List.mem_of_getElem? (hgs i hi);have hgi:∀i i',i < k->i' < k->gs i=gs i'->i=i':=λi i' hi Nl e=>aNE i i' hi Nl (hs.nodup _ _ _ (hgs i hi) (by rw[e];exact hgs i' Nl));let K:Nat->Prop:=λq=>(∃i,i < k/\q=gs i)\/∃r n cap sz,r < j/\cx.rows[σ r]?=some (.RC q n cap sz);let c0:Cx:=⟨0,(List.range k).map λi=>some (gs i),(List.range j).map rw,λq i=>¬K q/\cx.Z7 q i⟩
 have Wv:∀(i g:Nat),c0.CX[i]?=some (some g)↔i < k/\g=gs i:=by
   intro i g;show((List.range k).map λi=>some (gs i))[i]?=some (some g)↔_;rw[List.getElem?_map];by_cases hi:i < k;rw[List.getElem?_range hi];simp[hi,eq_comm];rw[List.getElem?_eq_none (by simp;omega)];simp[hi]
 have tS:∀g,some g∈c0.CX->∃i,i < k/\g=gs i:=by
   intro g Yy;obtain⟨i,hi,e⟩:=List.mem_map.1 Yy;exact⟨i,List.mem_range.1 hi,(Option.some.inj e).symm⟩
 have aW:∀(q:Nat) x,c0.rows[q]?=some x->q < j/\cx.rows[σ q]?=some x:=by
   intro q x hx;have hx:((List.range j).map rw)[q]?=some x:=hx;have hl:=(List.getElem?_eq_some_iff.1 hx).1;simp at hl;rw[List.getElem?_map,List.getElem?_range hl] at hx;simp at hx;subst hx;exact⟨hl,hrw q hl⟩
 have pO:∀q,q < j->c0.rows[q]?=some (rw q):=by
   intro q hq;show((List.range j).map rw)[q]?=some (rw q);rw[List.getElem?_map,List.getElem?_range hq];rfl
 have afE:c0.rows.length=j:=by show((List.range j).map rw).length=j;simp
 have IQ:∀g i x,Me cx w g i x->Me c0 w g i x:=by
   intro g i x hx;refine⟨hx.1,λGP=>?_,hx.2.2⟩;rcases GP with GP | ⟨r,n,cap,sz,hr,h1,h2⟩ | GP
   obtain⟨i',Nl,rfl⟩:=tS g GP;exact hx.2.1 (.inl (pM i' Nl));exact hx.2.1 (.inr (.inl ⟨σ r,n,cap,sz,(aW _ _ hr).2,h1,h2⟩));exact hx.2.1 GP.2
 have hdn:Dn k j ρ σ cx w c0 w:=⟨IQ,λi g hi Yy=>by
   rw[Wv];rw[hgs i hi] at Yy;cases Yy;exact⟨hi,rfl⟩,λq hq=>⟨rw q,hrw q hq,pO q hq⟩⟩
 have Gm:St G c0 w ⟨hm,k,Fm,j⟩:=by
   refine⟨by simp[c0],hd,λi i' g h1 h2=>?_,λg _=>Nat.zero_le _,λid g b h1 h2=>?_,afE.symm,λq g n cap sz hq=>?_,λq n hq=>?_,λg Yy=>?_,(λq i hb=>hs.Uo hb.2),λq q' g n cap sz n' cap' NK h1 h2=>?_,(λg cs Yy=>Be.plain IQ (hG g cs Yy) (hs.M1 g cs Yy)),Nat.zero_le _⟩;obtain⟨hi,e1⟩:=(Wv i g).1 h1;obtain⟨Nl,e2⟩:=(Wv i' g).1 h2;exact hgi i i' hi Nl (e1.symm.trans e2);obtain⟨hi,rfl⟩:=(Wv id g).1 h1;obtain⟨b',WU,hn⟩:=Px id b hi h2;obtain⟨o,ho,hb⟩:=hs.box (ρ id) (gs id) _ (hgs id hi) WU;exact⟨o,ho,hn.down hdn hb⟩;obtain⟨hq1,ZH⟩:=aW _ _ hq;obtain⟨_,_,a3,a4,a5⟩:=hs.row _ _ _ _ _ ZH;refine⟨λi hb=>hb.1 (.inr ⟨q,n,cap,sz,hq1,ZH⟩),Nat.zero_le _,λhm'=>?_,a4,a5⟩;obtain⟨i,hi,rfl⟩:=tS g hm';exact a3 (pM i hi);have hlt:=hFm q n hq;have:=hs.Je _ _ (aFU q n hlt hq);rw[hrw q hlt] at this;rw[pO q hlt];exact this;obtain⟨i,hi,rfl⟩:=tS g Yy;exact hs.Na (pM i hi);obtain⟨a1,a2⟩:=aW _ _ h1;obtain⟨b1,b2⟩:=aW _ _ h2;exact avG _ _ a1 b1 (hs.IX _ _ _ _ _ _ _ _ _ a2 b2)
 refine(h c0 w vs Gm (GN.down hdn ha)).mono ?_;rintro e w' ⟨c',hx,M4,jT⟩
 have tT:c'.CX=c0.CX:=by
   obtain⟨t,ht⟩:=hx.CX;have h1:c'.CX.length=k:=M4.len.symm;have h2:c0.CX.length=k:=by simp[c0]
   rw[<- ht,List.length_append,h2] at h1;have:t=[]:=List.eq_nil_of_length_eq_zero (by omega);rw[<- ht,this,List.append_nil]
 have azA:c'.rows.length=j:=M4.I2.symm;have afF:∀q,q < j->∃y,c'.rows[q]?=some y:=λq hq=>⟨_,List.getElem?_eq_getElem (by rw[azA];exact hq)⟩
 have hle:∀q y,q < j->c'.rows[q]?=some y->KS (rw q) y:=by
   intro q y hq hy;obtain⟨x,h1,h2⟩:=hx.rows q y (by rw[afE];exact hq) hy;rw[pO q hq] at h1;cases h1;exact h2
 let lO:List Rw:=(List.range cx.rows.length).map λq=>open Classical in if hq:∃r,r < j/\σ r=q then c'.rows.getD (Classical.choose hq) .gone else cx.rows.getD q .gone
 have afG:lO.length=cx.rows.length:=by simp[lO]
 have ZT:∀r,r < j->lO[σ r]?=c'.rows[r]?:=by
   intro r hr;have hl:=(List.getElem?_eq_some_iff.1 (hrw r hr)).1;show((List.range cx.rows.length).map _)[σ r]?=_;rw[List.getElem?_map,List.getElem?_range hl];simp only[Option.map_some];have hq:∃r',r' < j/\σ r'=σ r:=⟨r,hr,rfl⟩;rw[dif_pos hq];have hc:=Classical.choose_spec hq;have:Classical.choose hq=r:=avG _ _ hc.1 hr hc.2;rw[this];obtain⟨y,hy⟩:=afF r hr;rw[List.getD_eq_getElem?_getD,hy];rfl
 have eG:∀q,(∀r,r < j->q≠σ r)->lO[q]?=cx.rows[q]?:=by
   intro q hq;by_cases hl:q < cx.rows.length;show((List.range cx.rows.length).map _)[q]?=_;rw[List.getElem?_map,List.getElem?_range hl];simp only[Option.map_some];rw[dif_neg (by rintro⟨r,h1,h2⟩;exact hq r h1 h2.symm),List.getD_eq_getElem?_getD,List.getElem?_eq_getElem hl];rfl;rw[List.getElem?_eq_none (by omega),List.getElem?_eq_none (by omega)]
 have Tx:∀q:Nat,(∃r,r < j/\q=σ r)\/∀r,r < j->q≠σ r:=λq=>by
   by_cases hq:∃r,r < j/\q=σ r;exact .inl hq;exact .inr λr h1 h2=>hq ⟨r,h1,h2⟩
 have L3:∀r g n cap sz,r < j->c'.rows[r]?=some (.RC g n cap sz)->(∃r0 n0 R8 mI,r0 < j/\cx.rows[σ r0]?=some (.RC g n0 R8 mI))\/w.heap.size<=g:=by
   intro r g n cap sz hr hy;rcases hx.Z4 _ _ _ _ _ hy with ⟨r0,n0,R8,mI,h1⟩ | h1
   obtain⟨h2,h3⟩:=aW _ _ h1;exact .inl ⟨r0,n0,R8,mI,h2,h3⟩;exact .inr h1
 have OO:=hx.below
 have TY:RV w w' K:=⟨OO.os,OO.tape,OO.output,OO.size,λq hq hne=>hx.Hh q hq (λhm'=>hne (.inl (tS q hm'))) (λr n cap sz hr=>hne (by
   obtain⟨h1,h2⟩:=aW _ _ hr;exact .inr ⟨r,n,cap,sz,h1,h2⟩))⟩
 have hKb:∀q,K q->cx.base<=q:=by
   rintro q (⟨i,hi,rfl⟩ | ⟨r,n,cap,sz,hr,h1⟩);exact hs.low _ (pM i hi);exact(hs.row _ _ _ _ _ h1).2.1
 let c1:Cx:=⟨cx.base,cx.CX,lO,cx.bad⟩
 have jY:∀g i x,Me c' w' g i x->Me c1 w' g i x:=by
   intro g i x hv;refine⟨hv.1,λGP=>hv.2.1 ?_,hv.2.2⟩;have Lg:¬K g->cx.Z7 g i->c'.Z7 g i:=λh1 h2=>.inr (.inr (by rw[hx.bad];exact⟨h1,h2⟩));rcases GP with GP | ⟨q,n,cap,sz,hq,h1,h2⟩ | GP
   by_cases hK:K g;rcases hK with ⟨i',Nl,rfl⟩ | ⟨r,n,cap,sz,hr,h1⟩
   refine .inl ?_;rw[tT];exact List.mem_of_getElem? ((Wv i' (gs i')).2 ⟨Nl,rfl⟩);exact absurd GP (hs.row _ _ _ _ _ h1).2.2.1;exact Lg hK (.inl GP);rcases Tx q with ⟨r,hr,rfl⟩ | nS
   simp only[c1] at hq;rw[ZT r hr] at hq;exact .inr (.inl ⟨r,n,cap,sz,hq,h1,h2⟩);simp only[c1] at hq;rw[eG q nS] at hq;refine Lg ?_ (.inr (.inl ⟨q,n,cap,sz,hq,h1,h2⟩));rintro(⟨i',Nl,rfl⟩ | ⟨r,n',cap',NK,hr,h3⟩);exact(hs.row _ _ _ _ _ hq).2.2.1 (pM i' Nl);exact nS r hr (hs.IX _ _ _ _ _ _ _ _ _ hq h3);by_cases hK:K g;rcases hK with ⟨i',Nl,rfl⟩ | ⟨r,n,cap,sz,hr,h1⟩
   refine .inl ?_;rw[tT];exact List.mem_of_getElem? ((Wv i' (gs i')).2 ⟨Nl,rfl⟩);exact absurd GP ((hs.row _ _ _ _ _ h1).1 i);exact Lg hK (.inr (.inr GP))
 have ext:Ext cx w c1 w':=by
   refine⟨List.prefix_refl _,by simp[c1,afG],λq y hq hy=>?_,λg i x hv=>jY g i x (hx.aB g i x (IQ g i x hv)),TY.below hs.QB hKb,rfl,rfl,λ_ h=>.inl h,λq g n cap sz hq=>?_,λq hq hp hr=>TY.block q hq ?_⟩;rcases Tx q with ⟨r,hr,rfl⟩ | nS
   simp only[c1] at hy;rw[ZT r hr] at hy;exact⟨rw r,hrw r hr,hle r y hr hy⟩;simp only[c1] at hy;rw[eG q nS] at hy;exact⟨y,hy,KS.refl y⟩;rcases Tx q with ⟨r,hr,rfl⟩ | nS
   simp only[c1] at hq;rw[ZT r hr] at hq;rcases L3 _ _ _ _ _ hr hq with ⟨r0,n0,R8,mI,_,h1⟩ | h1
   exact .inl ⟨_,_,_,_,h1⟩;exact .inr h1;simp only[c1] at hq;rw[eG q nS] at hq;exact .inl ⟨_,_,_,_,hq⟩;rintro(⟨i',Nl,rfl⟩ | ⟨r,n',cap',NK,Xl,h3⟩);exact hp (pM i' Nl);exact hr _ _ _ _ h3
 have hup:Up k j ρ σ c' w' c1 w':=⟨jY,λi g hi Yy=>by
   rw[tT,Wv] at Yy;obtain⟨_,rfl⟩:=Yy;exact hgs i hi,λq hq=>by
   obtain⟨y,hy⟩:=afF q hq;exact⟨y,by simp only[c1];rw[ZT q hq];exact hy,hy⟩⟩
 have st1:St G c1 w' s2:=by
   refine⟨by rw[hu.nx,hs.len],by rw[hu.nx];exact hu.desc _ hs.desc,hs.nodup,hs.low,λid g b h1 h2=>?_,by rw[hu.nr,hs.I2];exact afG.symm,λq g n cap sz hq=>?_,λq n hq=>?_,λg Yy=>Nat.lt_of_lt_of_le (hs.MM g Yy) TY.size,λg i hb=>Nat.lt_of_lt_of_le (hs.M0 g i hb) TY.size,λq q' g n cap sz n' cap' NK h1 h2=>?_,λg cs Yy=>(hs.M1 g cs Yy).mono ext,Nat.le_trans hs.QB TY.size⟩;rcases hu.get id b h2 with ⟨i,b0,hi,rfl,hb0,hn⟩ | ⟨hne,h3⟩
   obtain⟨o,ho,hb⟩:=M4.box i (gs i) b0 (by rw[tT];exact(Wv i (gs i)).2 ⟨hi,rfl⟩) hb0;have h1:cx.CX[ρ i]?=some (some g):=h1;rw[hgs i hi] at h1;cases h1;exact⟨o,ho,hn.up hup hb⟩;obtain⟨o,ho,hb⟩:=hs.box id g b h1 h3;refine⟨o,?_,hb.mono ext⟩;rw[TY.block g (Array.getElem?_eq_some_iff.1 ho).1 ?_];exact ho;rintro(⟨i',Nl,rfl⟩ | ⟨r,n',cap',NK,Xl,h4⟩);exact hne i' Nl (hs.nodup _ _ _ h1 (hgs i' Nl));exact(hs.row _ _ _ _ _ h4).2.2.1 (List.mem_of_getElem? h1);simp only[c1] at hq ⊢;rcases Tx q with ⟨r,Xl,rfl⟩ | nS
   rw[ZT r Xl] at hq;obtain⟨a1,a2,a3,a4,a5⟩:=M4.row _ _ _ _ _ hq;rcases L3 _ _ _ _ _ Xl hq with ⟨r0,n0,R8,mI,_,h4⟩ | h4
   obtain⟨b1,b2,b3,_⟩:=hs.row _ _ _ _ _ h4;exact⟨b1,b2,b3,a4,a5⟩;refine⟨λi hb=>?_,Nat.le_trans hs.QB h4,λhm'=>?_,a4,a5⟩;have:=hs.M0 _ _ hb;omega;have:=hs.Na hm';omega;rw[eG q nS] at hq;obtain⟨a1,a2,a3,a4,vs',T,a5,a6⟩:=hs.row _ _ _ _ _ hq;refine⟨a1,a2,a3,a4,vs',T,?_,a6⟩;rw[TY.block g (Array.getElem?_eq_some_iff.1 a5).1 ?_];exact a5;rintro(⟨i',Nl,rfl⟩ | ⟨r,n',cap',NK,Xl,h4⟩);exact a3 (pM i' Nl);exact nS r Xl (hs.IX _ _ _ _ _ _ _ _ _ hq h4);simp only[c1];rcases hu.tok q n hq with ⟨r,Xl,rfl,h3⟩ | ⟨nS,h3⟩
   rw[ZT r Xl];exact M4.Je r n h3;rw[eG q nS];exact hs.Je q n h3;simp only[c1] at h1 h2
   have key:∀r q,r < j->(∀r',r' < j->q≠σ r')->∀n cap sz n' cap' NK,c'.rows[r]?=some (.RC g n cap sz)->cx.rows[q]?=some (.RC g n' cap' NK)->False:=by
     intro r q Xl nS n cap sz n' cap' NK e1 e2;rcases L3 _ _ _ _ _ Xl e1 with ⟨r0,n0,R8,mI,tV,h4⟩ | h4
     exact nS r0 tV (hs.IX _ _ _ _ _ _ _ _ _ e2 h4);have:=hs.Ng e2;omega
   rcases Tx q with ⟨r,Xl,rfl⟩ | hq1<;>rcases Tx q' with ⟨r2,hr2,rfl⟩ | ZH
   rw[ZT r Xl] at h1;rw[ZT r2 hr2] at h2;rw[M4.IX _ _ _ _ _ _ _ _ _ h1 h2];rw[ZT r Xl] at h1;rw[eG q' ZH] at h2;exact(key r q' Xl ZH _ _ _ _ _ _ h1 h2).elim;rw[eG q hq1] at h1;rw[ZT r2 hr2] at h2;exact(key r2 q hr2 hq1 _ _ _ _ _ _ h2 h1).elim;rw[eG q hq1] at h1;rw[eG q' ZH] at h2;exact hs.IX _ _ _ _ _ _ _ _ _ h1 h2
 refine⟨c1,ext,st1,?_⟩;cases r with
 | ret v =>
   cases r' with
   | ret v' =>
     obtain⟨u,rfl,hu'⟩:=jT;exact⟨u,rfl,Rn.up hup hr hu'⟩
   | pan v'=>exact hr.elim
 | pan v =>
   cases r' with
   | ret v'=>exact hr.elim
   | pan v' =>
     obtain⟨u,rfl,hu'⟩:=jT;exact⟨u,rfl,Rn.up hup hr hu'⟩
end AI
namespace AI
open Go Go.RowKit
def I9:List AM->Nat->List (Nat×AM)->List (Nat×AM)
 | [],_,acc=>acc
 | b::l,n,acc=>I9 l (n+1) ((n,b)::acc)
def rW:List Nat->Nat->List (Nat×Nat)
 | [],_=>[]
 | k::l,n=>(n,k)::rW l (n+1)
def qF{M:List AM}:∀{n:Nat} {acc:List (Nat×AM)} {i:Nat} {b:AM},JN acc n->look i (I9 M n acc)=some b->(n<=i/\M[i - n]?=some b)\/look i acc=some b:=by
 induction M with
 | nil=>intro n acc i b _ h;exact .inr h
 | cons x M ih =>
   intro n acc i b hd h;rcases ih (n:=n+1) (acc:=(n,x)::acc) ⟨Nat.lt_succ_self n,hd⟩ h with ⟨h1,h2⟩ | h1
   refine .inl ⟨by omega,?_⟩;rw[show i - n=(i - (n+1))+1 by omega];exact h2;simp only[look] at h1;split at h1;rename_i hb;have:=beq_true hb;subst this;cases h1;exact .inl ⟨Nat.le_refl _,by simp⟩;exact .inr h1
def oN{M:List AM}:∀{n:Nat} {acc:List (Nat×AM)},JN acc n->JN (I9 M n acc) (n+M.length):=by
 induction M with
 | nil=>intro n acc h;exact h
 | cons x M ih =>
   intro n acc h;have:=ih (n:=n+1) (acc:=(n,x)::acc) ⟨Nat.lt_succ_self n,h⟩;rw[List.length_cons,show n+(M.length+1)=n+1+M.length by omega];exact this
def VS{T:List Nat}:∀{n r k:Nat},D8 r (rW T n)=some k->n<=r/\T[r - n]?=some k:=by
 induction T with
 | nil=>intro n r k h;cases h
 | cons x T ih =>
   intro n r k h;simp only[rW,D8] at h;split at h;rename_i hb;have:=beq_true hb;subst this;cases h;exact⟨Nat.le_refl _,by simp⟩;obtain⟨h1,h2⟩:=ih h;refine⟨by omega,?_⟩;rw[show r - n=(r - (n+1))+1 by omega];exact h2
def cB{T:List Nat}:∀{n r:Nat},n<=r->r - n < T.length->∃k,D8 r (rW T n)=some k:=by
 induction T with
 | nil=>intro n r _ h;simp at h
 | cons x T ih =>
   intro n r h1 h2;simp only[rW,D8];split;exact⟨_,rfl⟩;rename_i hb;have:=beq_false hb;exact ih (by omega) (by simp at h2;omega)
inductive XP(k j:Nat)(ρ σ:Nat->Nat):List AM->List (Nat×AM)->Prop where
 | nil:XP k j ρ σ [] []
 | cons {b b':AM} {i:Nat} {l:List AM} {m:List (Nat×AM)} (h:wT k j ρ σ b b') (t:XP k j ρ σ l m):XP k j ρ σ (b::l) ((i,b')::m)
def XP.len{k j:Nat}{ρ σ:Nat->Nat}{l:List AM}{m:List (Nat×AM)}(h:XP k j ρ σ l m):l.length=m.length:=by
 induction h with
 | nil=>rfl
 | cons _ _ ih=>simp[ih]
def XP.get{k j:Nat}{ρ σ:Nat->Nat}{l:List AM}{m:List (Nat×AM)}(h:XP k j ρ σ l m):∀{i:Nat} {b:AM},l[i]?=some b->∃e,m[i]?=some e/\wT k j ρ σ b e.2:=by
 induction h with
 | nil=>intro i b hb;simp at hb
 | cons h _ ih =>
   intro i b hb;cases i with
   | zero=>simp at hb;subst hb;exact⟨_,rfl,h⟩
   | succ i=>exact ih (by simpa using hb)
def XP.aMK{k j:Nat}{ρ σ:Nat->Nat}{l:List AM}{m:List (Nat×AM)}(h:XP k j ρ σ l m):∀{i:Nat} {e:Nat×AM},m[i]?=some e->∃b,l[i]?=some b/\wT k j ρ σ b e.2:=by
 induction h with
 | nil=>intro i b hb;simp at hb
 | cons h _ ih =>
   intro i b hb;cases i with
   | zero=>simp at hb;subst hb;exact⟨_,rfl,h⟩
   | succ i=>exact ih (by simpa using hb)
def mN:∀(l:List (Nat×AM)) (s:AS) (id:Nat) (b:AM),(s.Wc l).get id=some b->(∃e∈l,e.1=id/\e.2=b)\/((∀e∈l,e.1≠id)/\s.get id=some b)
 | [],s,id,b,h=>.inr ⟨(λe he=>by cases he),h⟩
 | e::l,s,id,b,h=>by
   rcases mN l (s.put e.1 e.2) id b h with ⟨x,hx,h1⟩ | ⟨h1,h2⟩
   exact .inl ⟨x,List.mem_cons_of_mem _ hx,h1⟩;rcases Zu h2 with ⟨h3,h4⟩ | ⟨h3,h4⟩
   exact .inl ⟨e,List.mem_cons_self,h3.symm,h4.symm⟩;refine .inr ⟨λx hx=>?_,h4⟩;rcases List.mem_cons.1 hx with rfl | hx
   exact λe=>h3 e.symm;exact h1 x hx
def cF:∀(l:List (Nat×AM)) (s:AS),(s.Wc l).nx=s.nx/\(s.Wc l).nr=s.nr/\(s.Wc l).F=s.F/\∀n,JN s.h n->JN (s.Wc l).h n
 | [],s=>⟨rfl,rfl,rfl,λ_ h=>h⟩
 | e::l,s=>by
   obtain⟨h1,h2,h3,h4⟩:=cF l (s.put e.1 e.2);exact⟨h1,h2,h3,λn h=>h4 n (Zt h)⟩
def aR:∀(l:List (Nat×Nat)) (s:AS) (q n:Nat),D8 q (s.Tw l).F=some n->(∃e∈l,e.1=q/\e.2=n)\/((∀e∈l,e.1≠q)/\D8 q s.F=some n)
 | [],s,q,n,h=>.inr ⟨(λe he=>by cases he),h⟩
 | e::l,s,q,n,h=>by
   rcases aR l _ q n h with ⟨x,hx,h1⟩ | ⟨h1,h2⟩
   exact .inl ⟨x,List.mem_cons_of_mem _ hx,h1⟩;rcases bU h2 with ⟨h3,h4,_⟩ | ⟨h3,h4⟩
   exact .inl ⟨e,List.mem_cons_self,h3.symm,h4.symm⟩;refine .inr ⟨λx hx=>?_,h4⟩;rcases List.mem_cons.1 hx with rfl | hx
   exact λe=>h3 e.symm;exact h1 x hx
def Yp:∀(l:List (Nat×Nat)) (s:AS),(s.Tw l).nx=s.nx/\(s.Tw l).nr=s.nr/\(s.Tw l).h=s.h
 | [],s=>⟨rfl,rfl,rfl⟩
 | e::l,s=>Yp l _
def Yo:∀{l:List (Nat×AM)} {s:AS},Yn s l=OJ l->∀{i:Nat} {e:Nat×AM},l[i]?=some e->s.get e.1=some e.2
 | [],s,_,i,e,he=>by simp at he
 | x::l,s,h,i,e,he=>by
   simp only[Yn,OJ,List.cons.injEq] at h;cases i with
   | zero=>simp at he;subst he;exact h.1
   | succ i=>exact Yo h.2 (by simpa using he)
def jL:∀{l:List (Nat×Nat)} {F:List (Nat×Nat)},aO F l=Pg l->∀{i:Nat} {e:Nat×Nat},l[i]?=some e->D8 e.1 F=some e.2
 | [],s,_,i,e,he=>by simp at he
 | x::l,s,h,i,e,he=>by
   simp only[aO,Pg,List.cons.injEq] at h;cases i with
   | zero=>simp at he;subst he;exact h.1
   | succ i=>exact jL h.2 (by simpa using he)
mutual
inductive Occ(id:Nat):AV->Prop where
 | ptr {off:Nat}:Occ id (.ptr id off)
 | mp:Occ id (.mp id)
 | msl {off n:Nat}:Occ id (.msl id off n)
 | agg {cs:List AV} (h:UI id cs):Occ id (.agg cs)
 | fn1 {f:Fn} {a b:List AV} (h:UI id a):Occ id (.fn f a b)
 | fn2 {f:Fn} {a b:List AV} (h:UI id b):Occ id (.fn f a b)
inductive UI(id:Nat):List AV->Prop where
 | here {a:AV} {l:List AV} (h:Occ id a):UI id (a::l)
 | there {a:AV} {l:List AV} (h:UI id l):UI id (a::l)
end
mutual
def Occ.CX{c:Cx}{w:World}{id:Nat}:∀{a:AV} {v:Value},Occ id a->Rp c w a v->∃g,c.CX[id]?=some (some g):=by
 intro a v ho h;cases ho with
 | ptr=>cases h with | ptr h1=>exact⟨_,h1⟩
 | mp=>cases h with | mp h1=>exact⟨_,h1⟩
 | msl=>cases h with | msl hn h1=>exact⟨_,h1⟩
 | agg h1=>cases h with | agg h2=>exact UI.CX h1 h2
 | fn1 h1=>cases h with | fn h2 h3=>exact UI.CX h1 h2
 | fn2 h1=>cases h with | fn h2 h3=>exact UI.CX h1 h3
def UI.CX{c:Cx}{w:World}{id:Nat}:∀{a:List AV} {v:List Value},UI id a->CG c w a v->∃g,c.CX[id]?=some (some g):=by
 intro a v ho h;cases ho with
 | here h1=>cases h with | cons h2 _=>exact Occ.CX h1 h2
 | there h1=>cases h with | cons _ h2=>exact UI.CX h1 h2
end
inductive Rch(args:List AV)(pre:List (Nat×AM)):Nat->Prop where
 | arg {id:Nat} (h:UI id args):Rch args pre id
 | box {i id p:Nat} {cs:List AV} (h:Rch args pre i) (hp:pre[p]?=some (i,.cells cs)) (ho:UI id cs):Rch args pre id
def Rch.CX{G:Bc}{args:List AV}{pre:List (Nat×AM)}{s:AS}(hb:Yn s pre=OJ pre){cx:Cx}{w:World}{vs:List Value}(hs:St G cx w s)(ha:CG cx w args vs){id:Nat}(h:Rch args pre id):∃g,cx.CX[id]?=some (some g):=by
 induction h with
 | arg h=>exact h.CX ha
 | box h hp ho ih =>
   obtain⟨g,hg⟩:=ih;obtain⟨o,_,yI⟩:=hs.box _ g _ hg (Yo hb hp);cases yI with
   | H6 ext hr=>exact ho.CX hr
def Lu{β:Type}(l:List (Nat×β))(i:Nat):Nat:=match l[i]? with
 | some e=>e.1
 | none=>0
def Lv{β:Type}{l:List (Nat×β)}{i:Nat}{e:Nat×β}(h:l[i]?=some e):Lu l i=e.1:=by unfold Lu;rw[h]
def keys{β:Type}(l:List (Nat×β)):List Nat:=l.map (·.1)
def aY{β:Type}{l:List (Nat×β)}(h:(keys l).Nodup){i i':Nat}(hi:i < l.length)(Nl:i' < l.length)(e:Lu l i=Lu l i'):i=i':=by
 have h1:(keys l)[i]?=some (Lu l i):=by
   unfold keys;rw[List.getElem?_map,List.getElem?_eq_getElem hi,Lv (List.getElem?_eq_getElem hi)];rfl
 have h2:(keys l)[i']?=some (Lu l i'):=by
   unfold keys;rw[List.getElem?_map,List.getElem?_eq_getElem Nl,Lv (List.getElem?_eq_getElem Nl)];rfl
 rw[<- e] at h2;exact zF h h1 h2
def QP{β β':Type}{l:List (Nat×β)}{m:List (Nat×β')}(h:keys l=keys m)(i:Nat):Lu l i=Lu m i:=by
 have h1:=congrArg (λx=>x[i]?) h;unfold keys at h1;simp only[List.getElem?_map] at h1;unfold Lu;cases hl:l[i]?<;>cases hm:m[i]?<;>rw[hl,hm] at h1<;>simp at h1<;>simp[h1]
def H8{P:Program}{G:Bc}(hG:∀g cs,G g=some cs->BE cs=true){f:FuncId}{args X0:List AV}{r r':CR}{M M2:List AM}{T T2:List Nat}(pre Ra:List (Nat×AM))(tp tu:List (Nat×Nat)){k j:Nat}
   (h:Sound P G (.call f args ⟨I9 M 0 [],k,rW T 0,j⟩ r ⟨I9 M2 0 [],k,rW T2 0,j⟩))
   (hk:M.length=k) (hj:T.length=j) (hj2:T2.length=j)
   (hku:keys Ra=keys pre) (hkt:keys tu=keys tp) (P0:(keys pre).Nodup) (P1:(keys tp).Nodup)
   (htp:tp.map (·.2)=T) (htu:tu.map (·.2)=T2)
   (hb:XP k j (Lu pre) (Lu tp) M pre) (hb2:XP k j (Lu pre) (Lu tp) M2 Ra)
   (GN:UK k j (Lu pre) (Lu tp) args X0)
   (hr:RnR k j (Lu pre) (Lu tp) r r')
   (aNN:∀e∈pre,Rch X0 pre e.1):Cd.ok P G (.Fa f X0 r' pre tp Ra tu):=by
 intro s hgb hgf;have hpl:pre.length=k:=by rw[<- hb.len,hk]
 have htl:tp.length=j:=by rw[<- hj,<- htp,List.length_map]
 have hul:Ra.length=k:=by
   have:=congrArg List.length hku;simp only[keys,List.length_map] at this;omega
 have aQX:tu.length=j:=by rw[<- hj2,<- htu,List.length_map]
 refine ayG hG h (by have:=oN (M:=M) (n:=0) (acc:=[]) trivial;rw[Nat.zero_add,hk] at this;exact this) (Lu pre) (Lu tp) (λi i' hi Nl e=>aY P0 (by omega) (by omega) e) (λi i' hi Nl e=>aY P1 (by omega) (by omega) e) GN (s:=s) (λi b hi hl=>?_) (λcx w vs hs ha i hi=>?_) (λq n hq hl=>?_) (λq hq=>?_) (λq n hl=>?_) hr ?_;rcases qF (acc:=[]) trivial hl with ⟨_,h1⟩ | h1
 rw[Nat.sub_zero] at h1;obtain⟨e,he,hn⟩:=hb.get h1;exact⟨e.2,by rw[Lv he];exact Yo hgb he,hn⟩;cases h1;have he:pre[i]?=some pre[i]:=List.getElem?_eq_getElem (by omega);rw[Lv he];exact(aNN _ (List.mem_of_getElem? he)).CX hgb hs ha
 · obtain⟨_,h1⟩:=VS hl
   rw[Nat.sub_zero,<- htp,List.getElem?_map] at h1;cases he:tp[q]? with
   | none=>rw[he] at h1;cases h1
   | some e =>
     rw[he] at h1;simp at h1;rw[Lv he,<- h1];exact jL hgf he
 exact cB (Nat.zero_le _) (by omega);obtain⟨_,h1⟩:=VS hl;have:=(List.getElem?_eq_some_iff.1 h1).1;omega
 · obtain⟨a1,a2,a3,a4⟩:=cF Ra s
   obtain⟨b1,b2,b3⟩:=Yp tu (s.Wc Ra);refine⟨by rw[b1,a1],by rw[b2,a2],λn hd=>by rw[b3];exact a4 n hd,λid b hg=>?_,λq n hq=>?_⟩
   · have hg:(s.Wc Ra).get id=some b:=by
       unfold AS.get at hg ⊢;rw[b3] at hg;exact hg
     rcases mN Ra s id b hg with ⟨e,he,rfl,rfl⟩ | ⟨h1,h2⟩
     · obtain⟨i,hi⟩:=List.mem_iff_getElem?.1 he
       have hil:=(List.getElem?_eq_some_iff.1 hi).1;obtain⟨b0,hb0,hn⟩:=hb2.aMK hi;refine .inl ⟨i,b0,by omega,by rw[<- QP hku,Lv hi],?_,hn⟩
       have:∀(M:List AM) (n:Nat) (acc:List (Nat×AM)) (i:Nat) (b:AM),M[i]?=some b->(∀e∈acc,e.1 < n)->look (n+i) (I9 M n acc)=some b:=by
         intro M
         induction M with
         | nil=>intro n acc i b h;simp at h
         | cons x M ih =>
           intro n acc i b h jQ;cases i with
           | succ i =>
             have:=ih (n+1) ((n,x)::acc) i b (by simpa using h) (λe he=>by
               rcases List.mem_cons.1 he with rfl | he
               exact Nat.lt_succ_self _;have:=jQ e he;omega)
             rw[show n+(i+1)=n+1+i by omega];exact this
           | zero =>
             simp at h;subst h;simp only[I9,Nat.add_zero]
             have aFR:∀(M:List AM) (n':Nat) (acc:List (Nat×AM)),n < n'->look n (I9 M n' acc)=look n acc:=by
               intro M
               induction M with
               | nil=>intro n' acc _;rfl
               | cons y M yO =>
                 intro n' acc hlt;simp only[I9];rw[yO (n'+1) _ (by omega)];simp only[look]
                 have:Nat.beq n' n=false:=by
                   cases hq:Nat.beq n' n with
                   | false=>rfl
                   | true=>have:=beq_true hq;omega
                 rw[this]
             rw[aFR M (n+1) _ (by omega)];simp only[look];rw[show Nat.beq n n=true from Nat.beq_refl n]
       have:=this M2 0 [] i b0 hb0 (λe he=>by cases he);rwa[Nat.zero_add] at this
     refine .inr ⟨λi hi e=>?_,h2⟩;have he:Ra[i]?=some Ra[i]:=List.getElem?_eq_getElem (by omega);refine h1 _ (List.mem_of_getElem? he) ?_;rw[e,<- QP hku,Lv he]
   rcases aR tu _ q n hq with ⟨e,he,rfl,rfl⟩ | ⟨h1,h2⟩
   obtain⟨i,hi⟩:=List.mem_iff_getElem?.1 he;have hil:=(List.getElem?_eq_some_iff.1 hi).1;refine .inl ⟨i,by omega,by rw[<- QP hkt,Lv hi],?_⟩;obtain⟨kk,hkk⟩:=cB (T:=T2) (n:=0) (r:=i) (Nat.zero_le _) (by omega);obtain⟨_,h3⟩:=VS hkk;rw[Nat.sub_zero,<- htu,List.getElem?_map,hi] at h3;simp at h3;rw[hkk,h3];refine .inr ⟨λi hi e=>?_,by rw[<- a3];exact h2⟩;have he:tu[i]?=some tu[i]:=List.getElem?_eq_getElem (by omega);refine h1 _ (List.mem_of_getElem? he) ?_;rw[e,<- QP hkt,Lv he]
end AI
namespace AI
open Go Go.RowKit
section
variable {P:Program} {G:Bc}
def QM(G:Bc)(s0:AS)(r0:CR)(s2:AS):CR->AS->Prop:=λr s'=>match r0 with
 | .ret v=>∃a,r=.ret a/\wS G s0 [a] s' [v] s2
 | .pan v=>∃a,r=.pan a/\wS G s0 [a] s' [v] s2
def BY(hm:P.follows .mixedOrders=true){f:FuncId}{args:List AV}{s0 s2:AS}{r0:CR}(h:WC P G (XS P G) H0 f args s0 (QM G s0 r0 s2)):Sound P G (.call f args s0 r0 s2):=by
 obtain⟨r,s',hj,hq⟩:=h;have hS:=sound (Sb hm) hj;intro cx w vs hs GN;refine(hS cx w vs hs GN).mono ?_;rintro e w' ⟨c',hx,hs',jT⟩;cases r0 with
 | ret v =>
   obtain⟨a,rfl,hf⟩:=hq;obtain⟨u,rfl,hu⟩:=jT;obtain⟨c2,x2,UF,f2⟩:=hf cx w c' w' [u] hx hs hs' (.cons hu .nil);cases f2 with
   | cons f3 _=>exact⟨c2,x2,UF,u,rfl,f3⟩
 | pan v =>
   obtain⟨a,rfl,hf⟩:=hq;obtain⟨u,rfl,hu⟩:=jT;obtain⟨c2,x2,UF,f2⟩:=hf cx w c' w' [u] hx hs hs' (.cons hu .nil);cases f2 with
   | cons f3 _=>exact⟨c2,x2,UF,u,rfl,f3⟩
def QD(P:Program)(G:Bc)(fn:Func)(m:Nat)(s0:AS)(Q:AX->List AV->AS->Prop)(v:AV)(s2:AS):Prop:=∀a s',wS G s0 [a] s' [v] s2->RW P fn m Q a s'
def TL(G:Bc)(m:Nat)(s0:AS)(Q:AX->List AV->AS->Prop)(v:AV)(s2:AS):Prop:=∀a s',wS G s0 [a] s' [v] s2->UJ m Q a s'
def QD.body{fn:Func}{m:Nat}{s0 s2:AS}{v:AV}:QD P G fn m s0 (Tm P fn m (QM G s0 (.ret v) s2)) v s2:=λa s' hf=>.body ⟨a,rfl,hf⟩
def TL.body{fn:Func}{m:Nat}{s0 s2:AS}{v:AV}:TL G m s0 (Tm P fn m (QM G s0 (.pan v) s2)) v s2:=λa s' hf=>.body ⟨a,rfl,hf⟩
def QD.outer{fn:Func}{m id:Nat}{ks:List KI}{s0 s2:AS}{Q:AX->List AV->AS->Prop}{v:AV}(h:QD P G fn m s0 Q v s2):QD P G fn m s0 (EN id (Ed P G ks Q)) v s2:=λa s' hf=>(h a s' hf).outer
def QD.Ge{fn:Func}{m:Nat}{L:Code}{s0 s1 s2:AS}{Q:AX->List AV->AS->Prop}{v:AV}(h:QD P G fn m s0 Q v s2):QD P G fn m s0 (Um P G L s1 Q) v s2:=h
def TL.outer{m id:Nat}{ks:List KI}{s0 s2:AS}{Q:AX->List AV->AS->Prop}{v:AV}(h:TL G m s0 Q v s2):TL G m s0 (EN id (Ed P G ks Q)) v s2:=λa s' hf=>(h a s' hf).outer
def TL.Ge{m:Nat}{L:Code}{s0 s1 s2:AS}{Q:AX->List AV->AS->Prop}{v:AV}(h:TL G m s0 Q v s2):TL G m s0 (Um P G L s1 Q) v s2:=h
def Af{f:FuncId}{args:List AV}{v:AV}{pre:List (Nat×AM)}{tp:List (Nat×Nat)}{Ra:List (Nat×AM)}{tu:List (Nat×Nat)}(h:Cd.ok P G (.Fa f args (.ret v) pre tp Ra tu)):PC P G :=
 ⟨.u v pre tp Ra tu,[.Fa f args (.ret v) pre tp Ra tu,.tB (OJ pre) (OJ pre) (Pg tp) (Pg tp)],⟨h,⟨rfl,rfl⟩,trivial⟩⟩
def aqE{f:FuncId}{args Wl:List AV}{v:AV}{pre:List (Nat×AM)}{tp:List (Nat×Nat)}{Ra:List (Nat×AM)}{tu:List (Nat×Nat)}(w:Wn args Wl)(h:Cd.ok P G (.Fa f Wl (.ret v) pre tp Ra tu)):PC P G :=
 ⟨.u v pre tp Ra tu,[.Fa f args (.ret v) pre tp Ra tu,.tB (OJ pre) (OJ pre) (Pg tp) (Pg tp)],⟨λs h1 h2 cx wd vs hs ha=>h s h1 h2 cx wd vs hs (w.ok ha),⟨rfl,rfl⟩,trivial⟩⟩
def An{f:FuncId}{args:List AV}{v:AV}{pre:List (Nat×AM)}{tp:List (Nat×Nat)}{Ra:List (Nat×AM)}{tu:List (Nat×Nat)}(h:Cd.ok P G (.Fa f args (.pan v) pre tp Ra tu)):PC P G :=
 ⟨.q v pre tp Ra tu,[.Fa f args (.pan v) pre tp Ra tu,.tB (OJ pre) (OJ pre) (Pg tp) (Pg tp)],⟨h,⟨rfl,rfl⟩,trivial⟩⟩
def pz(c:Nat):PC P G:=⟨.z c,[],trivial⟩
def nU:PC P G:=⟨.za,[],trivial⟩
end
end AI
namespace AI
open Go Go.RowKit
mutual
def Zr{n m n2 m2:Nat}(h1:n<=n2)(h2:m<=m2):∀{a:AV},under n m a=true->under n2 m2 a=true
 | .sc _,_=>rfl
 | .agg cs,h=>by simp only[under] at h ⊢;exact J3 h1 h2 h
 | .C4 cs,h=>by simp only[under] at h ⊢;exact J3 h1 h2 h
 | .sl o k cs,h=>by
   simp only[under,Bool.and_eq_true] at h ⊢;refine⟨?_,J3 h1 h2 h.2⟩;have h3:=h.1;cases o with
   | row r z=>simp only[decide_eq_true_eq] at h3 ⊢;omega
   | _=>rfl
 | .msl id _ _,h=>by simp only[under,decide_eq_true_eq] at h ⊢;omega
 | .el cs,h=>by simp only[under] at h ⊢;exact J3 h1 h2 h
 | .ptr id _,h=>by simp only[under,decide_eq_true_eq] at h ⊢;omega
 | .fn _ a b,h=>by simp only[under,Bool.and_eq_true] at h ⊢;exact⟨J3 h1 h2 h.1,J3 h1 h2 h.2⟩
 | .ifc _ v,h=>by simp only[under] at h ⊢;exact Zr h1 h2 h
 | .mp id,h=>by simp only[under,decide_eq_true_eq] at h ⊢;omega
 | .any,_=>rfl
 | .raw _ _ _,_=>rfl
def J3{n m n2 m2:Nat}(h1:n<=n2)(h2:m<=m2):∀{a:List AV},FD n m a=true->FD n2 m2 a=true
 | [],_=>rfl
 | a::l,h=>by simp only[FD,Bool.and_eq_true] at h ⊢;exact⟨Zr h1 h2 h.1,J3 h1 h2 h.2⟩
end
def Wn.z{l m:List AV}(t:Wn l m):Wn (.sl .full 0 []::l) (.sl .lost 0 []::m):=.s rfl t
def rS{P:Program}{G:Bc}{r:HR}{X:Prop}{x:Value}{fn:Func}{m:Nat}{l:List (PC P G)}(R:UL P G l (Tm P fn m (λr _=>∃a,r=.ret a/\Fits 0 0 a (.sc x))) r X)(h:aqR P fn r=some (hJ l,.sc x)):X:=Ax fn m R h .body .sc
abbrev JJ:=List Value×List AV
def aAV:List Value->Nat->Value
 | [],_=>undef
 | v::_,0=>v
 | _::l,k+1=>aAV l k
def aGM:List AV->Nat->AV
 | [],_=>.sc undef
 | v::_,0=>v
 | _::l,k+1=>aGM l k
def jn(j:JJ)(k:Nat):Value:=aAV j.1 k
def gn(j:JJ)(k:Nat):AV:=aGM j.2 k
def frm:Nat->Nat->List (Nat×AV)->List Nat->Nat->List Nat->Nat->JJ->List AV
 | 0,_,_,_,_,_,_,_=>[]
 | n+1,p,l,bs,kb,gs,kg,j=>(match hd1 p l with
   | some v=>v::frm n (p+1) (l.drop 1) bs kb gs kg j
   | none=>(match hd2 p bs with
     | true=>.sc (jn j kb)::frm n (p+1) l (bs.drop 1) (kb+1) gs kg j
     | false=>(match hd2 p gs with
       | true=>gn j kg::frm n (p+1) l bs kb (gs.drop 1) (kg+1) j
       | false=>.any::frm n (p+1) l bs kb gs kg j)))
where
 hd1 (p:Nat):List (Nat×AV)->Option AV
   | []=>none
   | e::_=>(match Nat.beq e.1 p with | true=>some e.2 | false=>none)
 hd2 (p:Nat):List Nat->Bool
   | []=>false
   | e::_=>Nat.beq e p
structure Mm(κ ν:Type) where
 es:List (κ×ν×Nat)
 cl:Nat
section
variable {κ ν:Type} [DecidableEq κ]
def LW(k:κ):List (κ×ν×Nat)->Nat->Option (Nat×ν)
 | [],_=>none
 | e::es,i=>if e.1=k then some (i,e.2.1) else LW k es (i+1)
def Mm.get(m:Mm κ ν)(k:κ):Option ν:=(LW k m.es 0).map (·.2)
def Mm.set(m:Mm κ ν)(k:κ)(v:ν):Mm κ ν:=match LW k m.es 0 with
 | some (j,_)=>(match m.es[j]? with | some e=>⟨m.es.set j (k,v,e.2.2),m.cl⟩ | none=>m)
 | none=>⟨m.es++[(k,v,m.cl)],m.cl+1⟩
def Mm.nil:Mm κ ν:=⟨[],0⟩
def zD(k k2:κ)(v:ν)(b:Nat):∀(es:List (κ×ν×Nat)) (i:Nat),LW k (es++[(k2,v,b)]) i=match LW k es i with
   | some r=>some r
   | none=>if k2=k then some (i+es.length,v) else none:=by
 intro es
 induction es with
 | nil=>intro i;simp[LW]
 | cons e es ih =>
   intro i;simp only[List.cons_append,LW];by_cases he:e.1=k;simp[he];rw[if_neg he,if_neg he,ih (i+1)];cases LW k es (i+1) with
   | some r=>rfl
   | none=>simp only[List.length_cons];rw[show i+1+es.length=i+(es.length+1) by omega]
def kM{k:κ}:∀{es:List (κ×ν×Nat)} {i j:Nat} {v:ν},LW k es i=some (j,v)->∃m e,j=i+m/\es[m]?=some e/\e.1=k/\e.2.1=v:=by
 intro es
 induction es with
 | nil=>intro i j v h;cases h
 | cons e es ih =>
   intro i j v h;simp only[LW] at h;split at h;rename_i he;cases h;exact⟨0,e,rfl,rfl,he,rfl⟩;obtain⟨m,e',h1,h2,h3⟩:=ih h;exact⟨m+1,e',by omega,by simpa using h2,h3⟩
def zE{k:κ}{v:ν}:∀{es:List (κ×ν×Nat)} {i m b:Nat} {v0:ν},LW k es i=some (i+m,v0)->∀k',LW k' (es.set m (k,v,b)) i=if k'=k then some (i+m,v) else LW k' es i:=by
 intro es
 induction es with
 | nil=>intro i m b v0 h;cases h
 | cons e es ih =>
   intro i m b v0 h k';simp only[LW] at h;split at h;rename_i he;have hm:m=0:=by have h5:=congrArg (λo:Option (Nat×ν)=>o.map (·.1)) h;simp at h5;omega
   subst hm;simp only[List.set_cons_zero,LW,he];by_cases hk:k'=k;simp[hk];have hk2:¬k=k':=λe=>hk e.symm;simp[hk,hk2]
   · rename_i he
     obtain⟨m',_,hm,_⟩:=kM h;cases m with
     | zero=>omega
     | succ m =>
       simp only[List.set_cons_succ,LW];have:=ih (i:=i+1) (m:=m) (b:=b) (by rw[show i+1+m=i+(m+1) by omega];exact h) k';by_cases hk:e.1=k';rw[if_pos hk,if_pos hk];have:¬k'=k:=λe'=>he (hk.trans e');simp[this];rw[if_neg hk,if_neg hk,this,show i+1+m=i+(m+1) by omega]
def Mm.Xj(m:Mm κ ν)(k:κ)(v:ν)(k':κ):(m.set k v).get k'=if k'=k then some v else m.get k':=by
 unfold Mm.get Mm.set;cases hf:LW k m.es 0 with
 | none =>
   simp only;rw[zD];by_cases hk:k'=k;subst hk;rw[hf];simp
   · cases Yw:LW k' m.es 0 with
     | some r=>simp[hk]
     | none =>
       have hk2:¬k=k':=λe=>hk e.symm;simp[hk,hk2]
 | some r =>
   obtain⟨j,v0⟩:=r;obtain⟨q,e,h1,h2,h3,_⟩:=kM hf;have hj:j=q:=by omega
   subst hj;simp only[h2];rw[zE (i:=0) (m:=j) (v0:=v0) (by rw[Nat.zero_add];exact hf)];by_cases hk:k'=k<;>simp[hk]
end
structure aQH{κ:Type}[DecidableEq κ](d:TypeDesc)(kv:κ->Value):Prop where
 pk:plainKey d=true
 same:∀a b:κ,Zb d (kv a) (kv b)=some (decide (b=a))
end AI
namespace AI
open Go Go.RowKit
section
variable {P:Program} {G:Bc} {α:Type} {f:α->List AV} {C:List α->List AV} {k:Nat}
def OM.ixm(_:OM f C k){t elem:TypeId}(hu:P.underlying t=some (.slice elem))(hs:(P.info? elem).map (·.size)=some k){id n i:Nat}(h:i < n):CH P t (.msl id 0 n) (.sc (.int .i64 ((i:Nat):Int)))=some (.ptr id (0+i*k)):=by
 cases hi:P.info? elem with
 | none=>rw[hi] at hs;cases hs
 | some e =>
   rw[hi] at hs;have hk:e.size=k:=by simpa using hs
   have hn:RA (.sc (.int .i64 ((i:Nat):Int)))=some i:=by unfold RA;simp
   unfold CH;rw[hu,hn];simp only[hi];rw[if_pos h,hk]
def bV{l:List α}{i:Nat}(y:α)(h:i < l.length):l.set i y=l.take i++y::l.drop (i+1):=by
 rw[List.set_eq_take_append_cons_drop,if_pos h]
def OM.st(h:OM f C k){e:TypeId}(hs:(P.info? e).map (·.size)=some k){l:List α}{i:Nat}{x:α}(hx:l[i]?=some x)(y:α){v:AV}(hv:cellsOf v=f y)(h1:(f y).all one=true):Cd.ok P G (.stB (.cells (C l)) e (0+i*k) v (.cells (C (l.set i y)))):=by
 intro s id hg;have hlt:=(List.getElem?_eq_some_iff.1 hx).1;have hle:i*k+k<=l.length*k:=by have:=Nat.mul_le_mul_right k hlt;rw[Nat.succ_mul] at this;exact this
 cases hi:P.info? e with
 | none=>rw[hi] at hs;cases hs
 | some j =>
   rw[hi] at hs;have hk:j.size=k:=by simpa using hs
   unfold KT;rw[hi];simp only[hg];rw[hv,hk,h.eq,Nat.zero_add,if_pos ⟨h.len y,h1,by rw[HV h.len];exact hle⟩,h.eq];congr 3;unfold IH;rw[h.len y,WM h.len,show i*k+k=(i+1)*k by rw[Nat.succ_mul],WK h.len,bV y hlt,MQ,FC,List.append_assoc]
end
end AI
namespace AI
open Go Go.RowKit
section
variable {P:Program} {G:Bc}
def abO{f:FuncId}{fn:Func}{c:Code}{args:List AV}{s s0 s2:AS}{m:Nat}{v:AV}(hf:P.funcs[f]?=some fn)(hb:fn.body=some c)(h:W P G (XS P G) H0 c (args++List.replicate (fn.ntmps - args.length) (.sc undef)) s (Tm P fn m (QM G s0 (.ret v) s2))):WC P G (XS P G) H0 f args s (λr s'=>QM G s0 (.ret v) s2 r (s'.cut m)):=by
 obtain⟨e,VJ,s1,h1,h2⟩:=h;cases e with
 | normal=>obtain⟨v,h3,h4⟩:=h2;exact⟨_,_,.body hf hb h1 (.inl rfl) h3 (.inr rfl),h4⟩
 | ret=>obtain⟨v,h3,h4⟩:=h2;exact⟨_,_,.body hf hb h1 (.inr rfl) h3 (.inr rfl),h4⟩
 | pan v=>obtain⟨a,ha,_⟩:=h2;cases ha
 | exit id=>exact h2.elim
def aCF(hm:P.follows .mixedOrders=true){f:FuncId}{args:List AV}{s0 s2:AS}{v:AV}{m:Nat}(h:WC P G (XS P G) H0 f args s0 (λr s'=>QM G s0 (.ret v) s2 r (s'.cut m))):Sound P G (.call f args s0 (.ret v) s2):=by
 obtain⟨r,s',hj,a,rfl,hf⟩:=h;have hS:=sound (Sb hm) hj;intro cx w vs hs GN;refine(hS cx w vs hs GN).mono ?_;rintro e w' ⟨c',hx,hs',u,rfl,hu⟩;obtain⟨c2,x2,UF,f2⟩:=hf cx w c' w' [u] hx hs (hs'.cut m) (.cons hu .nil);cases f2 with
 | cons f3 _=>exact⟨c2,x2,UF,u,rfl,f3⟩
def anU(hG:∀g cs,G g=some cs->BE cs=true){s s' s2:AS}{fr' fr2:List AV}(hn:s.nx<=s2.nx)(hr:s.nr<=s2.nr)(hn2:s2.nx<=s'.nx)(hr2:s2.nr<=s'.nr)
   (hd:JN s2.h s2.nx) (ayR:∀id b,look id s2.h=some b->∃b',look id s'.h=some b'/\Rf s2.nx s2.nr b' b) (hF:∀r n,D8 r s2.F=some n->D8 r s'.F=some n/\r < s2.nr)
   (hf:JO s2.nx s2.nr fr' fr2):wS G s fr' s' fr2 s2:=by
 intro cx w c' w' vs hx hs hs' hfr;have hl1:=hs.len;have hl2:=hs'.len;have hl3:=hs.I2;have hl4:=hs'.I2
 have Sd:cx.CX <+: c'.CX.take s2.nx:=by
   obtain⟨t,ht⟩:=hx.CX;rw[<- ht,List.take_append,List.take_of_length_le (by omega)];exact List.prefix_append _ _
 have hrl:(c'.rows.take s2.nr).length=s2.nr:=by rw[List.length_take];omega
 refine⟨c'.upto s2.nx s2.nr,⟨Sd,?_,λr x Xl h=>hx.rows r x Xl (E3 h).1,λg i v hv=>Vt (hx.aB g i v hv),hx.below,hx.base,hx.bad,λg hg=>hx.Z2 g (List.mem_of_mem_take hg),λr g n cap sz h=>hx.Z4 r g n cap sz (E3 h).1,hx.Hh⟩,?_,hf _ _ _ hfr⟩;show cx.rows.length<=(c'.rows.take s2.nr).length;omega;refine⟨?_,hd,λi j g h1 h2=>hs'.nodup i j g (E3 h1).1 (E3 h2).1,λg hg=>hs'.low g (List.mem_of_mem_take hg),λid g b h1 h2=>?_,hrl.symm,λr g n cap sz h=>?_,λr n h=>?_,λg hg=>hs'.MM g (List.mem_of_mem_take hg),hs'.M0,λr r' g n cap sz n' cap' NK h h'=>hs'.IX r r' g n cap sz n' cap' NK (E3 h).1 (E3 h').1,λg cs hg=>(hs'.M1 g cs hg).upto (Cf _ _ (hG g cs hg)),hs'.QB⟩;show s2.nx=(c'.CX.take s2.nx).length;rw[List.length_take];omega;obtain⟨b',h3,h4⟩:=ayR id b h2;obtain⟨o,ho,hb⟩:=hs'.box id g b' (E3 h1).1 h3;exact⟨o,ho,h4 _ _ _ hb⟩;obtain⟨a1,a2,a3,a4⟩:=hs'.row r g n cap sz (E3 h).1;exact⟨a1,a2,λhm=>a3 (List.mem_of_mem_take hm),a4⟩;obtain⟨h1,h2⟩:=hF r n h;rcases hs'.Je r n h1 with ⟨h3,h4⟩ | ⟨g,cap,sz,h3⟩
 exact .inl ⟨Q9 h3 h2,h4⟩;exact .inr ⟨g,cap,sz,Q9 h3 h2⟩
def aqT(hG:∀g cs,G g=some cs->BE cs=true){live:List Nat}{n m:Nat}{s0:AS}{fr':List AV}{s':AS}{fps:List (FP n m)}{fbs:List (FB n m)}{fr2:List AV}{s2:AS}(hn:s0.nx<=n)(hr:s0.nr<=m)(hn2:n<=s'.nx)(hr2:m<=s'.nr)(h:aBW live n m fr' s' (ZG fps) (fbB fbs)=some (fr2,s2,gW fps,fbA fbs)):wS G s0 fr' s' fr2 s2:=by
 unfold aBW at h;split at h;rename_i f1 as hm;split at h;rename_i h1 cas hb;simp only[Option.some.injEq,Prod.mk.injEq] at h;obtain⟨rfl,rfl,rfl,rfl⟩:=h;intro cx w c' w' vs hx hs hs' hfr;obtain⟨hd,hl⟩:=amU hb;refine anU (s:=s0) (s2:=⟨h1,n,Wp m s'.F,m⟩) hG hn hr hn2 hr2 (hd _ (iY hs'.desc)) (λid b hb=>?_) (λr n hr=>jF hr) (apK hm) cx w c' w' vs hx hs hs' hfr;obtain⟨b',h3,h4⟩:=hl id b hb;exact⟨b',TU hs'.desc h3,h4⟩;cases h;cases h
def aEV(n:Nat):List Nat->Bool
 | []=>false
 | k::l=>Nat.beq n k||aEV n l
def Y2(ks:List Nat):List (Nat×AM)->List (Nat×AM)
 | []=>[]
 | e::l=>match aEV e.1 ks with
   | true=>e::Y2 ks l
   | false=>Y2 ks l
def Ua{ks:List Nat}:∀{l:List (Nat×AM)} {n:Nat},JN l n->JN (Y2 ks l) n
 | [],_,_=>trivial
 | e::l,n,h=>by
   simp only[Y2];split;exact⟨h.1,Ua h.2⟩;exact(Ua h.2).mono (Nat.le_of_lt h.1)
def Ub{ks:List Nat}{id:Nat}{b:AM}:∀{l:List (Nat×AM)} {n:Nat},JN l n->look id (Y2 ks l)=some b->look id l=some b
 | [],_,_,h=>h
 | e::l,n,hd,h=>by
   simp only[Y2] at h;split at h;simp only[look] at h ⊢;split at h;exact h;exact Ub hd.2 h;have h1:=Ub hd.2 h;have h2:=Xp hd.2 h1;simp only[look];split;rename_i hb;have:=beq_true hb;omega;exact h1
def AS.pick(s:AS)(ks:List Nat):AS:=⟨Y2 ks s.h,s.nx,s.F,s.nr⟩
def St.pick{c:Cx}{w:World}{s:AS}(h:St G c w s)(ks:List Nat):St G c w (s.pick ks) :=
 ⟨h.len,Ua h.desc,h.nodup,h.low,λid g b h1 h2=>h.box id g b h1 (Ub h.desc h2),h.I2,h.row,h.Je,h.MM,h.M0,h.IX,h.M1,h.QB⟩
def avY(ks:List Nat)(live:List Nat)(n m0:Nat)(P:Program)(fn:Func)(m:Nat)(bs:List AV)(cs:List AM):HR->Option (List Cd×List AV×AS×List AV×List AM)
 | some (.fin .ret,[],cd,fr,s)=>(match GM P s fn fr with
   | some v=>(match Nat.ble n s.nx&&Nat.ble m0 s.nr with
     | true=>(match aBW live n m0 [v] ((s.cut m).pick ks) bs cs with
       | some (fr2,s2,as,cas)=>some (cd,fr2,s2,as,cas)
       | none=>none)
     | false=>none)
   | none=>none)
 | _=>none
def anY(hG:∀g cs,G g=some cs->BE cs=true){r:HR}{X:Prop}{s0:AS}{Q:AX->List AV->AS->Prop}(fn:Func)(m:Nat){l:List (PC P G)}(ks:List Nat)(live:List Nat){n m0:Nat}(fps:List (FP n m0))(fbs:List (FB n m0))(v:AV)(s2:AS)(R:UL P G l Q r X)(hn:s0.nx<=n)(hr:s0.nr<=m0)
   (h:avY ks live n m0 P fn m (ZG fps) (fbB fbs) r=some (hJ l,[v],s2,gW fps,fbA fbs)) (k:QD P G fn m s0 Q v s2):X:=by
 unfold avY at h;split at h;split at h;rename_i v' hv;split at h;rename_i hle;simp only[Bool.and_eq_true] at hle;split at h;rename_i h1;simp only[Option.some.injEq,Prod.mk.injEq] at h;obtain⟨rfl,rfl,rfl,rfl,rfl⟩:=h;exact R _ _ _ _ rfl (Oh l) (k _ _ (λcx w c' w' vs hx hs hs' hf=>aqT (s':=(AS.cut _ m).pick ks) hG hn hr (Nat.le_of_ble_eq_true hle.1) (Nat.le_of_ble_eq_true hle.2) h1 cx w c' w' vs hx hs (hs'.pick ks) hf) _ _ hv rfl);cases h;cases h;cases h;cases h
inductive RnH(dn dr nx nr:Nat):List (Nat×AM)->List (Nat×AM)->Prop where
 | nil:RnH dn dr nx nr [] []
 | cons {i:Nat} {b b':AM} {l m:List (Nat×AM)} (h:wT dn dr (λi=>nx+i) (λr=>nr+r) b b') (t:RnH dn dr nx nr l m):RnH dn dr nx nr ((i,b)::l) ((nx+i,b')::m)
def RnH.desc{dn dr nx nr:Nat}{l m h:List (Nat×AM)}(hr:RnH dn dr nx nr l m)(hh:JN h nx):∀{n:Nat},JN l n->JN (m++h) (nx+n):=by
 induction hr with
 | nil=>intro n _;exact hh.mono (Nat.le_add_right _ _)
 | cons h1 t ih=>intro n hd;exact⟨Nat.add_lt_add_left hd.1 _,ih hd.2⟩
def RnH.look{dn dr nx nr id:Nat}{b:AM}{l m h:List (Nat×AM)}(hr:RnH dn dr nx nr l m)(hb:AI.look id (m++h)=some b):(∃i b0,id=nx+i/\AI.look i l=some b0/\wT dn dr (λi=>nx+i) (λr=>nr+r) b0 b)\/AI.look id h=some b:=by
 induction hr with
 | nil=>exact .inr hb
 | @cons i b0 b1 l m h1 t ih =>
   simp only[List.cons_append,AI.look] at hb;split at hb;rename_i he;cases hb;refine .inl ⟨i,b0,(beq_true he).symm,?_,h1⟩;simp only[AI.look];rw[Nat.beq_refl];rename_i he;have hne:=beq_false he;rcases ih hb with ⟨i',b',e,h2,h3⟩ | h2
   refine .inl ⟨i',b',e,?_,h3⟩;simp only[AI.look];split;rename_i h4;have:=beq_true h4;omega;exact h2;exact .inr h2
def yX{nr r n:Nat}{F:List (Nat×Nat)}:∀{F2:List (Nat×Nat)},D8 r (F2.map (λp=>(nr+p.1,p.2))++F)=some n->(∃q,r=nr+q/\D8 q F2=some n)\/D8 r F=some n:=by
 intro F2
 induction F2 with
 | nil=>exact λh=>.inr h
 | cons x l ih =>
   intro h;simp only[List.map_cons,List.cons_append,D8] at h;split at h;rename_i he;cases h;refine .inl ⟨x.1,(beq_true he).symm,?_⟩;simp only[D8];rw[Nat.beq_refl];rename_i he;have hne:=beq_false he;rcases ih h with ⟨q,e,h2⟩ | h2
   refine .inl ⟨q,e,?_⟩;simp only[D8];split;rename_i h4;have:=beq_true h4;omega;exact h2;exact .inr h2
def ayF(hG:∀g cs,G g=some cs->BE cs=true){f:FuncId}{args:List AV}{v v':AV}{h2 h3:List (Nat×AM)}{dn dr nx nr:Nat}{F2:List (Nat×Nat)}(h:Sound P G (.call f args ⟨[],0,[],0⟩ (.ret v) ⟨h2,dn,F2,dr⟩))(hp:BE args=true)
   (hv:Rn dn dr (λi=>nx+i) (λr=>nr+r) v v') (hb:RnH dn dr nx nr h2 h3):Cd.ok P G (.aK f args nx nr v' h3 dn (F2.map λp=>(nr+p.1,p.2)) dr):=by
 intro s hnx hnr cx w vs hs ha;subst hnx hnr;have hlp:=hs.len;have hlr:=hs.I2
 have IQ:∀g i x,Me cx w g i x->Me ⟨w.heap.size,[],[],cx.Z7⟩ w g i x:=by
   intro g i x hx;refine⟨hx.1,λGP=>?_,hx.2.2⟩;rcases GP with GP | ⟨r,n,cap,sz,hr,_⟩ | GP
   cases GP;simp at hr;exact hx.2.1 GP
 have Gm:St G ⟨w.heap.size,[],[],cx.Z7⟩ w ⟨[],0,[],0⟩ :=
   ⟨rfl,trivial,(λi j g h1=>by simp at h1),(λg hg=>by cases hg),(λid g b h1=>by simp at h1),rfl,(λr g n cap sz hr=>by simp at hr),(λr n hr=>by cases hr),(λg hg=>by cases hg),(λg i hb=>hs.Uo hb),(λr r' g n cap sz n' cap' NK hr=>by simp at hr),(λg cs hg=>Be.plain IQ (hG g cs hg) (hs.M1 g cs hg)),Nat.le_refl _⟩
 refine(h _ w vs Gm (CG.plain IQ hp ha)).mono ?_;rintro e w' ⟨c',hx,hs',u,rfl,hu⟩;have OO:=hx.below;have TY:RV w w' (λ_=>False):=⟨OO.os,OO.tape,OO.output,OO.size,λk hk _=>OO.block k hk⟩;have hpn:∀g,some g∈c'.CX->w.heap.size<=g:=λg hg=>(hx.Z2 g hg).resolve_left (by simp);have hrn:∀(r:Nat) g n cap sz,c'.rows[r]?=some (.RC g n cap sz)->w.heap.size<=g:=λr g n cap sz hg=>(hx.Z4 r g n cap sz hg).resolve_left (by rintro⟨_,_,_,_,hh⟩;simp at hh);have hl2:dn=c'.CX.length:=hs'.len;have hr2:dr=c'.rows.length:=hs'.I2;let c1:Cx:=⟨cx.base,cx.CX++c'.CX,cx.rows++c'.rows,cx.bad⟩
 have hpu:∀(i:Nat) g,c'.CX[i]?=some (some g)->c1.CX[s.nx+i]?=some (some g):=λi g hg=>by
   show(cx.CX++c'.CX)[s.nx+i]?=_;rw[List.getElem?_append_right (by omega),show s.nx+i - cx.CX.length=i by omega];exact hg
 have hru:∀(r:Nat) x,c'.rows[r]?=some x->c1.rows[s.nr+r]?=some x:=λr x hg=>by
   show(cx.rows++c'.rows)[s.nr+r]?=_;rw[List.getElem?_append_right (by omega),show s.nr+r - cx.rows.length=r by omega];exact hg
 have hpc:∀(i:Nat) g,c1.CX[i]?=some (some g)->(i < s.nx/\cx.CX[i]?=some (some g))\/∃k,i=s.nx+k/\c'.CX[k]?=some (some g):=λi g hg=>by
   have hg:(cx.CX++c'.CX)[i]?=some (some g):=hg;by_cases hi:i < cx.CX.length;rw[List.getElem?_append_left hi] at hg;exact .inl ⟨by omega,hg⟩;rw[List.getElem?_append_right (by omega)] at hg;exact .inr ⟨i - cx.CX.length,by omega,hg⟩
 have hrc:∀(i:Nat) x,c1.rows[i]?=some x->(i < s.nr/\cx.rows[i]?=some x)\/∃k,i=s.nr+k/\c'.rows[k]?=some x:=λi x hg=>by
   have hg:(cx.rows++c'.rows)[i]?=some x:=hg;by_cases hi:i < cx.rows.length;rw[List.getElem?_append_left hi] at hg;exact .inl ⟨by omega,hg⟩;rw[List.getElem?_append_right (by omega)] at hg;exact .inr ⟨i - cx.rows.length,by omega,hg⟩
 have hmc:∀g,some g∈c1.CX->some g∈cx.CX\/some g∈c'.CX:=λg hg=>List.mem_append.1 hg;have Lg:∀g i,cx.Z7 g i->c'.Z7 g i:=λg i hh=>.inr (.inr (by rw[hx.bad];exact hh))
 have jY:∀g i x,Me c' w' g i x->Me c1 w' g i x:=by
   intro g i x jZ;refine⟨jZ.1,λGP=>jZ.2.1 ?_,jZ.2.2⟩;rcases GP with GP | ⟨q,n,cap,sz,hq,h1,h2⟩ | GP
   rcases hmc g GP with hm | hm
   exact Lg _ _ (.inl hm);exact .inl hm;rcases hrc q _ hq with ⟨_,h3⟩ | ⟨k,_,h3⟩
   exact Lg _ _ (.inr (.inl ⟨q,n,cap,sz,h3,h1,h2⟩));exact .inr (.inl ⟨k,n,cap,sz,h3,h1,h2⟩);exact Lg _ _ (.inr (.inr GP))
 have ext:Ext cx w c1 w':=by
   refine⟨List.prefix_append _ _,by simp[c1],λq y hq hy=>?_,λg i x hv=>jY g i x (hx.aB g i x (IQ g i x hv)),TY.below hs.QB (λ_ hf=>hf.elim),rfl,rfl,λg hg=>?_,λq g n cap sz hq=>?_,λq hq hp hr=>TY.block q hq (λhf=>hf)⟩;rcases hrc q y hy with ⟨_,h3⟩ | ⟨k,h3,_⟩
   exact⟨y,h3,KS.refl y⟩;omega;rcases hmc g hg with hm | hm
   exact .inl hm;exact .inr (hpn g hm);rcases hrc q _ hq with ⟨_,h3⟩ | ⟨k,_,h3⟩
   exact .inl ⟨_,_,_,_,h3⟩;exact .inr (hrn _ _ _ _ _ h3)
 have hup:Up dn dr (λi=>s.nx+i) (λr=>s.nr+r) c' w' c1 w':=⟨jY,λi g _ hg=>hpu i g hg,λq hq=>by
   have hq:q < c'.rows.length:=by omega
   exact⟨_,hru q _ (List.getElem?_eq_getElem hq),List.getElem?_eq_getElem hq⟩⟩
 have st1:St G c1 w' ⟨h3++s.h,s.nx+dn,F2.map (λp=>(s.nr+p.1,p.2))++s.F,s.nr+dr⟩:=by
   refine⟨by simp only[c1,List.length_append];omega,hb.desc hs.desc hs'.desc,λi j g h1 h2=>?_,λg hg=>?_,λid g b h1 h2=>?_,by simp only[c1,List.length_append];omega,λq g n cap sz hq=>?_,λq n hq=>?_,λg hg=>?_,λg i hb=>Nat.lt_of_lt_of_le (hs.M0 g i hb) TY.size,λq q' g n cap sz n' cap' NK h1 h2=>?_,λg cs Yy=>(hs.M1 g cs Yy).mono ext,Nat.le_trans hs.QB TY.size⟩;rcases hpc i g h1 with ⟨_,a1⟩ | ⟨k,rfl,a1⟩<;>rcases hpc j g h2 with ⟨_,a2⟩ | ⟨k2,rfl,a2⟩
   exact hs.nodup _ _ _ a1 a2;have:=hs.Na (List.mem_of_getElem? a1);have:=hpn g (List.mem_of_getElem? a2);omega;have:=hs.Na (List.mem_of_getElem? a2);have:=hpn g (List.mem_of_getElem? a1);omega;rw[hs'.nodup _ _ _ a1 a2];rcases hmc g hg with hm | hm
   exact hs.low g hm;exact Nat.le_trans hs.QB (hpn g hm);rcases hb.look h2 with ⟨i,b0,rfl,h4,h5⟩ | h4
   rcases hpc _ g h1 with ⟨a0,_⟩ | ⟨k,a0,a1⟩
   omega;have:k=i:=by omega
   subst this;obtain⟨o,ho,yI⟩:=hs'.box k g b0 a1 h4;exact⟨o,ho,h5.up hup yI⟩;have hlt:=Xp hs.desc h4;rcases hpc _ g h1 with ⟨_,a1⟩ | ⟨k,a0,_⟩
   obtain⟨o,ho,yI⟩:=hs.box id g b a1 h4;refine⟨o,?_,yI.mono ext⟩;rw[TY.block g (Array.getElem?_eq_some_iff.1 ho).1 (λhf=>hf)];exact ho;omega;rcases hrc q _ hq with ⟨_,h3⟩ | ⟨k,_,h3⟩
   obtain⟨a1,a2,a3,a4,vs',T,a5,a6⟩:=hs.row _ _ _ _ _ h3;refine⟨a1,a2,λhm=>?_,a4,vs',T,?_,a6⟩;rcases hmc g hm with hm | hm
   exact a3 hm;have:=hpn g hm;have:=hs.Ng h3;omega;rw[TY.block g (Array.getElem?_eq_some_iff.1 a5).1 (λhf=>hf)];exact a5;obtain⟨a1,a2,a3,a4,a5⟩:=hs'.row _ _ _ _ _ h3;have hge:=hrn _ _ _ _ _ h3;refine⟨λi hb=>?_,Nat.le_trans hs.QB hge,λhm=>?_,a4,a5⟩;have:=hs.M0 _ _ hb;omega;rcases hmc g hm with hm | hm
   have:=hs.Na hm;omega;exact a3 hm;rcases yX hq with ⟨k,rfl,h4⟩ | h4
   rcases hs'.Je k n h4 with ⟨h5,h6⟩ | ⟨g,cap,sz,h5⟩
   exact .inl ⟨hru _ _ h5,h6⟩;exact .inr ⟨g,cap,sz,hru _ _ h5⟩
   have key:∀x,cx.rows[q]?=some x->c1.rows[q]?=some x:=λx hh=>by
     show(cx.rows++c'.rows)[q]?=_;rw[List.getElem?_append_left (List.getElem?_eq_some_iff.1 hh).1];exact hh
   rcases hs.Je q n h4 with ⟨h5,h6⟩ | ⟨g,cap,sz,h5⟩
   exact .inl ⟨key _ h5,h6⟩;exact .inr ⟨g,cap,sz,key _ h5⟩;rcases hmc g hg with hm | hm
   exact Nat.lt_of_lt_of_le (hs.MM g hm) TY.size;exact hs'.MM g hm;rcases hrc q _ h1 with ⟨_,a1⟩ | ⟨k,rfl,a1⟩<;>rcases hrc q' _ h2 with ⟨_,a2⟩ | ⟨k2,rfl,a2⟩
   exact hs.IX _ _ _ _ _ _ _ _ _ a1 a2;have:=hs.Ng a1;have:=hrn _ _ _ _ _ a2;omega;have:=hs.Ng a2;have:=hrn _ _ _ _ _ a1;omega;rw[hs'.IX _ _ _ _ _ _ _ _ _ a1 a2]
 exact⟨c1,ext,st1,u,rfl,hv.up hup hu⟩
def aBE{f:FuncId}{args:List AV}{nx nr:Nat}{v:AV}{h:List (Nat×AM)}{dn:Nat}{F:List (Nat×Nat)}{dr:Nat}(h1:Cd.ok P G (.aK f args nx nr v h dn F dr)):PC P G :=
 ⟨.cn v h dn F dr,[.aK f args nx nr v h dn F dr],⟨h1,trivial⟩⟩
end
end AI
namespace AI
open Go Go.RowKit
section
variable {P:Program} {G:Bc}
def OM.oB{α:Type}{f:α->List AV}{C:List α->List AV}{k:Nat}(h:OM f C k)(h1:∀x,(f x).all one=true)(m:List α):(C m).all one=true:=by
 rw[h.eq,List.all_eq_true];intro a ha;obtain⟨x,_,hx⟩:=List.mem_flatMap.1 ha;exact List.all_eq_true.1 (h1 x) a hx
def OM.ga{α:Type}{f:α->List AV}{C:List α->List AV}{k:Nat}(h:OM f C k){t tx e e2 by':Nat}(hu:P.underlying t=some (.slice e))(hux:P.underlying tx=some (.slice e2))(hi:(P.info? e).map (λi=>(i.size,i.bytes,i.zero.map (·.cells.size)))=some (k,by',some k))(hk:0 < k)(hb:by'<=10000)
   (own:Own) (l m:List α) {o:Own} (s:AS) (hm:m.length=0) (hlen:l.length+m.length<=100000000):Cd.ok P G (.UE s t tx (.sl own l.length (C l)) (.sl o m.length (C m)) (.sl own l.length (C l)) s):=by
 have hm0:m=[]:=List.eq_nil_of_length_eq_zero hm;subst hm0;cases hq:P.info? e with
 | none=>rw[hq] at hi;cases hi
 | some i =>
   rw[hq] at hi;simp only[Option.map_some,Option.some.injEq,Prod.mk.injEq] at hi;obtain⟨h1,h2,h3⟩:=hi;cases hz:i.zero with
   | none=>rw[hz] at h3;cases h3
   | some z =>
     rw[hz] at h3;simp only[Option.map_some,Option.some.injEq] at h3;have hc:C []=[]:=by rw[h.eq];rfl
     have pL:(C l).length=l.length*k:=by rw[h.eq,HV h.len]
     refine⟨.sl own l.length (C l),?_,λc w u hr=>hr⟩
     have hs:UP P s i.size tx (.sl o ([]:List α).length (C []))=some (0,[]):=by
       unfold UP;rw[hux,hc];simp
     unfold KL;simp only[hu,hq,hz];rw[if_pos ⟨by rw[h3,h1],by omega⟩,hs];simp only[List.length_nil] at hlen ⊢
     have hbb:(l.length+0)*i.bytes<=140737488355328:=by
       rw[h2];exact Nat.le_trans (Nat.mul_le_mul hlen hb) (by decide)
     rw[if_pos ⟨by rw[pL,h1],rfl,hbb,by omega⟩,if_pos trivial]
def axF{t tx e:TypeId}{i:TypeInfo}{z:Value}{b:AV}{m:Nat}{ns:List AV}(ht:P.underlying t=some (.slice e))(hi:P.info? e=some i)(hz:i.zero=some z)(azB:∀s,UP P s i.size tx b=some (m,ns))(hm:m≠0)(ho:ns.all one=true)(hb:m*i.bytes<=140737488355328)(hl:m<=9223372036854775807)(s:AS):awP P G t tx (.sl .full 0 []) b s (.msl s.nx 0 m) (s.new (.cells ns)):=by
 intro c w va vb ty hs ha hbv;obtain⟨news,hnr,hnl,hsi⟩:=dD hs (azB s) hbv
 have pI:∃A,va=.slice A 0 0:=by
   cases ha with
   | @sl0 _ A cap h0=>have:cap=0:=h0;subst this;exact⟨A,rfl⟩
   | @Ll _ _ cap g o _ hn hc ho=>have:cap=0:=ho;subst this;exact⟨_,rfl⟩
 obtain⟨A,rfl⟩:=pI
 have hold:(Builtin.firstCells i.size 0 (.slice A 0 0)).run P { w with drawn:=w.drawn+1 }=.ok ([]:List Value).toArray { w with drawn:=w.drawn+1 }:=by
   cases A with
   | none=>simp[Builtin.firstCells]
   | some a=>simp[Builtin.firstCells,loadCells,loadCellsFrom]
 obtain⟨cap',Yt,RG⟩:=Q4 (ty:=ty) ht hi hz hsi hold (by omega) (by omega) (by rw[Nat.zero_add];exact hb);rw[Nat.zero_add] at Yt RG;obtain⟨x1,st1⟩:=hs.same (w':={ w with drawn:=w.drawn+1 }) ⟨rfl,rfl,rfl,Nat.le_refl _,λ_ _ _=>rfl⟩
 have hbk:Fk c { w with drawn:=w.drawn+1 } (.cells ns) (.cells (news++(Builtin.zeroCells z.cells (cap' - m)).toList).toArray e (0,0)):=.H6 _ (hnr.mono x1)
 obtain⟨x2,UF⟩:=st1.new hbk
 have he:(([]++news).toArray++Builtin.zeroCells z.cells (cap' - m))=(news++(Builtin.zeroCells z.cells (cap' - m)).toList).toArray:=by
   apply Array.ext';simp
 rw[he] at RG;exact⟨_,_,_,RG,x1.trans x2,UF,.msl Yt (by simp[hs.len])⟩
def pga{s:AS}{t tx:TypeId}{a b:AV}(h:Cd.ok P G (.UE s t tx a b a s)):PC P G:=⟨.a a s,[.UE s t tx a b a s],⟨h,trivial⟩⟩
def aPG{s:AS}{t tx:TypeId}{a b:AV}(h:Cd.ok P G (.UE s t tx a b a s)):PC P G:=⟨.ae a,[.UE s t tx a b a s],⟨h,trivial⟩⟩
end
end AI
namespace AI
open Go Go.RowKit
def auL:Nat->Nat->List Nat->List Nat
 | 0,_,acc=>acc
 | k+1,n,acc=>match Nat.ble n 1 with
   | true=>acc
   | false=>auL k (n / 2) (n % 2::acc)
def sb(c:Code)(n:Nat):Code:=sub c (auL 200 n [])
def wk1(a:AV):AV->AV
 | .any=>oP a
 | .sl .lost _ _=>(match a with
   | .sl _ n cs=>.sl .lost n cs
   | a=>a)
 | _=>a
def aCZ{c:Cx}{w:World}{a b:AV}{v:Value}(hr:Rp c w a v):Rp c w (wk1 a b) v:=by
 unfold wk1;split;exact xV hr;split;cases hr with
 | sl0 _=>exact .sl0 trivial
 | Ll hn hc _=>exact .Ll hn hc trivial
 exact hr;exact hr
def wkF:List AV->List AV->List AV
 | a::l,b::k=>wk1 a b::wkF l k
 | l,_=>l
def SB{c:Cx}{w:World}:∀{l k:List AV} {vs:List Value},CG c w l vs->CG c w (wkF l k) vs
 | [],k,_,h=>by cases k<;>exact h
 | a::l,[],_,h=>h
 | a::l,b::k,_,h=>by cases h with | cons h1 t=>exact .cons (aCZ h1) (SB t)
def qO(n:Nat):AV->Bool
 | .fn _ a b=>zH a&&zH b
 | a=>obv n a
where
 zH:List AV->Bool
   | []=>true
   | a::l=>obv n a&&zH l
def Xs{n m:Nat}:∀{l:List AV},qO.zH n l=true->FD n m l=true
 | [],_=>rfl
 | a::l,h=>by
   simp only[qO.zH,Bool.and_eq_true] at h;simp only[FD,Bool.and_eq_true];refine⟨?_,Xs h.2⟩;have h1:=h.1;cases a<;>simp only[obv] at h1<;>first | rfl | (cases h1;done) | exact decide_eq_true (Nat.le_of_ble_eq_true h1)
def apO{n m:Nat}{a:AV}(h:qO n a=true):Fits n m a a:=by
 cases a with
 | fn f a b =>
   simp only[qO,Bool.and_eq_true] at h;exact .under (by simp only[under,Bool.and_eq_true];exact⟨Xs h.1,Xs h.2⟩)
 | _=>exact ahC h
def qG(r:List AV->MR)(n:Nat)(a:AV)(bs:List AV):MR:=match qO n a with
 | true=>bA a (r bs)
 | false=>none
def ZY(n:Nat):List AV->List AV->List AV->MR
 | [],_,[]=>some ([],[])
 | [],_,_::_=>none
 | a::l,[],bs=>bB (ZY n l []) a bs
 | a::l,b::k,bs=>match Se b with
   | true=>bB (ZY n l k) a bs
   | false=>(match qO n b with
     | true=>qG (ZY n l k) n a bs
     | false=>apG (ZY n l k) a bs)
def yY{n m:Nat}{r:List AV->MR}{l:List AV}(hr:∀(fps:List (FP n m)) l2,r (ZG fps)=some (l2,gW fps)->JO n m l l2){a:AV}{fps:List (FP n m)}{l2:List AV}(h:qG r n a (ZG fps)=some (l2,gW fps)):JO n m (a::l) l2:=by
 unfold qG at h;split at h;rename_i ho;unfold bA at h;split at h;rename_i l3 as h1;cases h;exact .cons (apO ho) (hr fps _ h1);cases h;cases h
def apL{n m:Nat}:∀{l k:List AV} {fps:List (FP n m)} {l2:List AV},ZY n l k (ZG fps)=some (l2,gW fps)->JO n m l l2:=by
 intro l
 induction l with
 | nil =>
   intro k fps l2 h;cases fps with
   | nil=>simp only[ZG,ZY] at h;cases h;exact .nil
   | cons p fps=>simp only[ZG,ZY] at h;cases h
 | cons a l ih =>
   intro k fps l2 h;cases k with
   | nil=>simp only[ZY] at h;exact Vb (λfps l2 h=>ih h) h
   | cons b k =>
     simp only[ZY] at h;split at h;exact Vb (λfps l2 h=>ih h) h;split at h;exact yY (λfps l2 h=>ih h) h;exact uL (λfps l2 h=>ih h) h
abbrev FO(n m:Nat):=Option (FB n m)
def foA{n m:Nat}:List (FO n m)->List (Option AM)
 | []=>[]
 | none::l=>none::foA l
 | some p::l=>some p.a::foA l
def oY{n m:Nat}:List (FO n m)->List (Option AM)
 | []=>[]
 | none::l=>none::oY l
 | some p::l=>some p.b::oY l
def aPD(n:Nat):AM->Bool
 | .cells cs=>qO.zH n cs
 | _=>false
abbrev BO:=Option (List (Nat×AM)×List (Option AM))
def uW(id:Nat)(a:Option AM)(b:AM):BO->BO
 | some (l,as)=>some ((id,b)::l,a::as)
 | none=>none
def ZM(n:Nat):List (Nat×AM)->List (Option AM)->BO
 | [],[]=>some ([],[])
 | e::l,none::bs=>(match aPD n e.2 with
   | true=>uW e.1 none e.2 (ZM n l bs)
   | false=>none)
 | e::l,some b::bs=>uW e.1 (some e.2) b (ZM n l bs)
 | _,_=>none
def amV{n m:Nat}:∀{l:List (Nat×AM)} {fbs:List (FO n m)} {l2:List (Nat×AM)},ZM n l (oY fbs)=some (l2,foA fbs)->(∀k,JN l k->JN l2 k)/\∀id b,look id l2=some b->∃b',look id l=some b'/\Rf n m b' b:=by
 intro l
 induction l with
 | nil =>
   intro fbs l2 h;cases fbs with
   | nil=>simp only[oY,ZM] at h;cases h;exact⟨λ_ _=>trivial,λid b h=>by cases h⟩
   | cons p fbs=>cases p<;>(simp only[oY,ZM] at h;cases h)
 | cons e l ih =>
   intro fbs l2 h
   have fin:∀{fbs:List (FO n m)} {l3:List (Nat×AM)} {b2:AM},ZM n l (oY fbs)=some (l3,foA fbs)->Rf n m e.2 b2->(∀k,JN (e::l) k->JN ((e.1,b2)::l3) k)/\∀id b,look id ((e.1,b2)::l3)=some b->∃b',look id (e::l)=some b'/\Rf n m b' b:=by
     intro fbs l3 b2 h1 hf;obtain⟨hd,hl⟩:=ih h1;refine⟨λk hk=>⟨hk.1,hd _ hk.2⟩,λid b hb=>?_⟩;simp only[look] at hb ⊢;split at hb;cases hb;exact⟨e.2,rfl,hf⟩;exact hl id b hb
   cases fbs with
   | nil=>simp only[oY,ZM] at h;cases h
   | cons p fbs =>
     cases p with
     | none =>
       simp only[oY,ZM] at h;split at h;rename_i ho;unfold uW at h;split at h;rename_i l3 as h1;simp only[foA,Option.some.injEq,Prod.mk.injEq,List.cons.injEq,true_and] at h;obtain⟨rfl,rfl⟩:=h;refine fin h1 ?_;cases he:e.2 with
       | cells cs=>rw[he] at ho;exact .cells (.under (Xs ho))
       | _=>rw[he] at ho;cases ho
       cases h;cases h
     | some p =>
       simp only[oY,ZM] at h;unfold uW at h;split at h;rename_i l3 as h1;simp only[foA,Option.some.injEq,Prod.mk.injEq,List.cons.injEq] at h;obtain⟨rfl,h2,rfl⟩:=h;exact fin h1 (by rw[h2];exact p.h);cases h
abbrev RO2:=Option (List AV×AS×List AV×List (Option AM))
def ahW(rV:List AV)(n m:Nat)(fr':List AV)(s':AS)(bs:List AV)(cs:List (Option AM)):RO2 :=
 match ZY n fr' rV bs with
 | some (fr2,as)=>(match ZM n (Tp n s'.h) cs with
   | some (h2,cas)=>some (fr2,⟨h2,n,Wp m s'.F,m⟩,as,cas)
   | none=>none)
 | none=>none
section
variable {P:Program} {G:Bc}
def fQ(hG:∀g cs,G g=some cs->BE cs=true){rV:List AV}{s0:AS}{fr':List AV}{s':AS}{fps:List (FP s0.nx s0.nr)}{fbs:List (FO s0.nx s0.nr)}{fr2:List AV}{s2:AS}(h:ahW rV s0.nx s0.nr fr' s' (ZG fps) (oY fbs)=some (fr2,s2,gW fps,foA fbs)):wS G s0 fr' s' fr2 s2:=by
 unfold ahW at h;split at h;rename_i f1 as hm;split at h;rename_i h1 cas hb;simp only[Option.some.injEq,Prod.mk.injEq] at h;obtain⟨rfl,rfl,rfl,rfl⟩:=h;intro cx w c' w' vs hx hs hs' hfr;obtain⟨hd,hl⟩:=amV hb;refine anT (s:=s0) (s2:=⟨h1,s0.nx,Wp s0.nr s'.F,s0.nr⟩) hG rfl rfl (hd _ (iY hs'.desc)) (λid b hb=>?_) (λr n hr=>jF hr) (apL hm) cx w c' w' vs hx hs hs' hfr;obtain⟨b',h3,h4⟩:=hl id b hb;exact⟨b',TU hs'.desc h3,h4⟩;cases h;cases h
def wS.wk{s0 s':AS}{fr' k:List AV}:wS G s0 fr' s' (wkF fr' k) s':=λ_ _ c' _ _ hx _ hs' hfr=>⟨c',hx,hs',SB hfr⟩
def rF(rV:List AV):HR->Option (AX×List Cd×List AV×AS)
 | some (.fin e,[],cd,fr,s)=>some (e,cd,wkF fr rV,s)
 | _=>none
def GB{r:HR}{X:Prop}{L:Code}{s0:AS}{Q:AX->List AV->AS->Prop}{l:List (PC P G)}{fr2:List AV}{s2:AS}(R:UL P G l (Um P G L s0 Q) r X)(h:rF fr2 r=some (.normal,hJ l,fr2,s2))(k:WL P G (XS P G) H0 L fr2 s2 Q):X:=by
 unfold rF at h;split at h;simp only[Option.some.injEq,Prod.mk.injEq] at h;obtain⟨rfl,rfl,h3,rfl⟩:=h;exact R _ _ _ _ rfl (Oh l) ⟨_,_,h3▸wS.wk,k⟩;cases h
def Dx{r:HR}{X:Prop}{L:Code}{s0:AS}{Q:AX->List AV->AS->Prop}{l:List (PC P G)}{id:Nat}{fr2:List AV}{s2:AS}(R:UL P G l (Um P G L s0 Q) r X)(h:rF fr2 r=some (.exit id,hJ l,fr2,s2))(k:Q (.exit id) fr2 s2):X:=by
 unfold rF at h;split at h;simp only[Option.some.injEq,Prod.mk.injEq] at h;obtain⟨rfl,rfl,h3,rfl⟩:=h;exact R _ _ _ _ rfl (Oh l) ⟨_,_,h3▸wS.wk,k⟩;cases h
def avZ(rV:List AV)(n m:Nat)(bs:List AV)(cs:List (Option AM)):HR->Option (AX×List Cd×List AV×AS×List AV×List (Option AM))
 | some (.fin e,[],cd,fr,s)=>(match ahW rV n m fr s bs cs with
   | some (fr2,s2,as,cas)=>some (e,cd,fr2,s2,as,cas)
   | none=>none)
 | _=>none
def Iw(hG:∀g cs,G g=some cs->BE cs=true){r:HR}{X:Prop}{L:Code}{s0:AS}{Q:AX->List AV->AS->Prop}{l:List (PC P G)}(fps:List (FP s0.nx s0.nr))(fbs:List (FO s0.nx s0.nr)){fr2:List AV}{s2:AS}(R:UL P G l (Um P G L s0 Q) r X)
   (h:avZ fr2 s0.nx s0.nr (ZG fps) (oY fbs) r=some (.normal,hJ l,fr2,s2,gW fps,foA fbs)) (k:WL P G (XS P G) H0 L fr2 s2 Q):X:=by
 unfold avZ at h;split at h;split at h;rename_i h1;simp only[Option.some.injEq,Prod.mk.injEq] at h;obtain⟨rfl,rfl,rfl,rfl,rfl,rfl⟩:=h;exact R _ _ _ _ rfl (Oh l) ⟨_,_,fQ hG h1,k⟩;cases h;cases h
def aGY(n m0:Nat)(P:Program)(fn:Func)(m:Nat)(e0:AX)(rV bs:List AV)(cs:List (Option AM)):HR->Option (AX×List Cd×List AV×AS×List AV×List (Option AM))
 | some (.fin e,[],cd,fr,s)=>(match GM P s fn fr with
   | some v=>(match ahW rV n m0 [v] (s.cut m) bs cs with
     | some (fr2,s2,as,cas)=>some (e,cd,fr2,s2,as,cas)
     | none=>none)
   | none=>none)
 | _=>none
def Aw(hG:∀g cs,G g=some cs->BE cs=true){r:HR}{X:Prop}{s0:AS}{Q:AX->List AV->AS->Prop}(fn:Func)(m:Nat){l:List (PC P G)}(fps:List (FP s0.nx s0.nr))(fbs:List (FO s0.nx s0.nr)){v:AV}{s2:AS}(R:UL P G l Q r X)
   (h:aGY s0.nx s0.nr P fn m .ret [v] (ZG fps) (oY fbs) r=some (.ret,hJ l,[v],s2,gW fps,foA fbs)) (k:QD P G fn m s0 Q v s2):X:=by
 unfold aGY at h;split at h;split at h;rename_i v' hv;split at h;rename_i h1;simp only[Option.some.injEq,Prod.mk.injEq] at h;obtain⟨rfl,rfl,rfl,rfl,rfl,rfl⟩:=h;exact R _ _ _ _ rfl (Oh l) (k _ _ (fQ hG h1) _ _ hv rfl);cases h;cases h;cases h
def aDL(z:List NZ)(rV:List AV):HR->Option (List Cd×Nat×Code×List KI×List AV×AS)
 | some (.at id c ks,[],cd,fr,s)=>(match nzs z fr s with
   | some (fr2,s2)=>some (cd,id,c,ks,wkF fr2 rV,s2)
   | none=>none)
 | _=>none
def Hb{r:HR}{X:Prop}{Q:AX->List AV->AS->Prop}{l:List (PC P G)}(z:List NZ)(id:Nat)(L:Code)(Wy:List KI){fr2:List AV}{s2:AS}(R:UL P G l Q r X)
   (h:aDL z fr2 r=some (hJ l,id,L,Wy,fr2,s2)) (k:WL P G (XS P G) H0 L fr2 s2 (EN id (Ed P G Wy Q))):X:=by
 unfold aDL at h;split at h;split at h;rename_i fr3 s3 hz;simp only[Option.some.injEq,Prod.mk.injEq] at h;obtain⟨rfl,rfl,rfl,rfl,h5,rfl⟩:=h;refine R _ _ _ _ rfl (Oh l) ?_;obtain⟨e3,fr4,s4,h3,h4⟩:=k;refine⟨e3,fr4,s4,.awN (λcx w vs hs hr=>?_) h3,h4⟩;obtain⟨c2,x2,UF,r2⟩:=qM hz cx w vs hs hr;exact⟨c2,x2,UF,h5▸SB r2⟩;cases h;cases h
def jv(j:List Value)(k:Nat):Value:=aAV j k
def hdv(p:Nat):List (Nat×Value)->Option Value
 | []=>none
 | e::_=>(match Nat.beq e.1 p with | true=>some e.2 | false=>none)
def jsN(j:List Value)(l:List (Nat×Value))(k:Nat):Nat->List Value
 | 0=>[]
 | n+1=>(match hdv k l with
   | some v=>v::jsN j (l.drop 1) (k+1) n
   | none=>jv j k::jsN j l (k+1) n)
def js(n:Nat)(j:List Value)(l:List (Nat×Value)):List Value:=jsN j l 0 n
def frQ:Nat->Nat->List (Nat×AV)->List Nat->Nat->List Value->List AV
 | 0,_,_,_,_,_=>[]
 | n+1,p,l,bs,kb,j=>(match frm.hd1 p l with
   | some v=>v::frQ n (p+1) (l.drop 1) bs kb j
   | none=>(match frm.hd2 p bs with
     | true=>.sc (jv j kb)::frQ n (p+1) l (bs.drop 1) (kb+1) j
     | false=>.any::frQ n (p+1) l bs kb j))
def fr(n:Nat)(l:List (Nat×AV))(bs:List Nat)(j:List Value):List AV:=frQ n 0 l bs 0 j
def exR{δ:Type}(Q:AX->List AV->AS->Prop)(id:Nat)(F:δ->List Value->List AV)(S:δ->AS)(d:δ):Prop:=∀j,Q (.exit id) (F d j) (S d)
section loops
variable {α γ δ ρ β:Type} {id:Nat} {L:Code} {Wy:List KI} {Q:AX->List AV->AS->Prop} {done:γ->δ} {X:Prop} {k:δ->Option β} {kr:ρ->Option β} {r:β}
def RB(Rv:(AX->List AV->AS->Prop)->ρ->Prop){body:Nat->α->γ->Option (Lp γ δ ρ)}{l:List α}{i0:Nat}{x:γ}(F:Nat->γ->List Value->List AV)(S:γ->AS)(XF:δ->List Value->List AV)(SX:δ->AS)(j:List Value)
   (TX:WL P G (XS P G) H0 L (F i0 x j) (S x) (EN id (Ed P G Wy Q))->X)
   (hz:∀i x j,l.length<=i->exR (EN id (Ed P G Wy Q)) id XF SX (done x)->W P G (XS P G) H0 L (F i x j) (S x) (Um P G L (S x) (EN id (Ed P G Wy Q))))
   (hs:∀i y x j r,l[i]?=some y->i < l.length->i < 9223372036854775807->RQ (λx'=>∀j',WL P G (XS P G) H0 L (F (i+1) x' j') (S x') (EN id (Ed P G Wy Q))) (exR (EN id (Ed P G Wy Q)) id XF SX) (Rv (EN id (Ed P G Wy Q))) r->body i y x=some r->W P G (XS P G) H0 L (F i x j) (S x) (Um P G L (S x) (EN id (Ed P G Wy Q))))
   (hb:∀d j,k d=some r->Ed P G Wy Q .normal (XF d j) (SX d)) (hr:∀v,kr v=some r->Rv (EN id (Ed P G Wy Q)) v) :
   (S6 l.length (CQ body done (l.drop i0) i0 x)).bind (L8 k kr)=some r->X:=λh=>by
 obtain⟨res,h1,h2⟩:=iL h;obtain⟨hl,h1⟩:=aOZ h1;refine TX (amL l F (λ_ x _=>S x) (λ_=>True) (exR (EN id (Ed P G Wy Q)) id XF SX) (Rv (EN id (Ed P G Wy Q))) (λi x j _ h3 h4=>cU (hz i x j h3 h4)) (λi y x j r _ h3 h4 h5 h6=>cU (hs i y x j r h3 h4 (by omega) (by cases r with | nx _=>exact λj'=>h6 j' trivial | ex _=>exact h6 | rt _=>exact h6) h5)) i0 h1 ?_ j trivial)
 cases res with
 | inl d =>
   intro j;show Ed P G Wy Q (E4 id (.exit id)) _ _;rw[show E4 id (.exit id)=.normal from by simp[E4]];exact hb d j h2
 | inr v=>exact hr v h2
def Pn(Rv:(AX->List AV->AS->Prop)->ρ->Prop){body:γ->Option (Lp γ δ ρ)}{x:γ}(F:γ->List Value->List AV)(S:γ->AS)(XF:δ->List Value->List AV)(SX:δ->AS)(j:List Value)
   (TX:WL P G (XS P G) H0 L (F x j) (S x) (EN id (Ed P G Wy Q))->X)
   (hs:∀x j r,RQ (λx'=>∀j',WL P G (XS P G) H0 L (F x' j') (S x') (EN id (Ed P G Wy Q))) (exR (EN id (Ed P G Wy Q)) id XF SX) (Rv (EN id (Ed P G Wy Q))) r->body x=some r->W P G (XS P G) H0 L (F x j) (S x) (Um P G L (S x) (EN id (Ed P G Wy Q))))
   (hb:∀d j,k d=some r->Ed P G Wy Q .normal (XF d j) (SX d)) (hr:∀v,kr v=some r->Rv (EN id (Ed P G Wy Q)) v) :
   (L2 body x).bind (L8 k kr)=some r->X:=λh=>by
 obtain⟨res,h1,h2⟩:=iL h;obtain⟨n,h1⟩:=anR h1;refine TX (amM F (λx _=>S x) (λ_=>True) (exR (EN id (Ed P G Wy Q)) id XF SX) (Rv (EN id (Ed P G Wy Q))) (λx j r _ h5 h6=>cU (hs x j r (by cases r with | nx _=>exact λj'=>h6 j' trivial | ex _=>exact h6 | rt _=>exact h6) h5)) n h1 ?_ j trivial)
 cases res with
 | inl d =>
   intro j;show Ed P G Wy Q (E4 id (.exit id)) _ _;rw[show E4 id (.exit id)=.normal from by simp[E4]];exact hb d j h2
 | inr v=>exact hr v h2
end loops
def Ip{ks:List KI}{fr:List AV}{s:AS}{Q:AX->List AV->AS->Prop}(n:Nat)(l:List (PC P G)):UL P G l Q (RE (S5 P G n) ks .normal (pHs l) fr s) (Ed P G ks Q .normal fr s):=λ_ _ _ _ h hc hk=>dY (eA n) ks _ h hc hk
def pi{i:Nat}(h:i < 9223372036854775807):PC P G:=aPH i h
def bp{n m:Nat}{a:List AV}(h:BE a=true):FO n m:=some ⟨.cells a,.cells a,.cells (.plain h)⟩
def bu{n m:Nat}(a:List AV)(h:FD n m a=true):FO n m:=some ⟨.cells a,.cells a,.cells (.under h)⟩
def bw{n m:Nat}(a b:AM)(h:Rf n m a b):FO n m:=some ⟨a,b,h⟩
def pure_nil{f:FuncId}{n:Nat}{cs:List AV}{v:AV}(h1:n=0->cs=[]->Pure P G f [.sl .nil 0 []] v)(h2:Pure P G f [.sl .nn n cs] v):Pure P G f [.sl .lost n cs] v:=λs cx w vs hs ha=>by
 cases ha with
 | cons h t =>
   cases h with
   | @sl0 _ A cap _ =>
     cases hA:A.isNone with
     | true=>exact h1 rfl rfl s cx w _ hs (.cons (.sl0 hA) t)
     | false=>exact h2 s cx w _ hs (.cons (.sl0 hA) t)
   | Ll hn hc _=>exact h2 s cx w _ hs (.cons (.Ll hn hc trivial) t)
def aGS{n:Nat}{l:List AV}(h:BE l=true):plain (.sl .nn n l)=true:=by simp only[plain,h];rfl
end
end AI
namespace AI
open Go Go.RowKit
section
variable {P:Program} {G:Bc}
def sH(G:Bc)(s:AS)(a v:AV):Prop:=∀(c:Cx) (w:World) (u:Value),St G c w s->(∀g,some g∈c.CX->∀i,¬c.bad g i)->Rp c w a u->Rp (c.upto 0 0) w v u
inductive Fz(s:AS):List AV->List AV->Prop where
 | nil:Fz s [] []
 | r {a b:AV} {l k:List AV} (h:Fits 0 0 a b) (t:Fz s l k):Fz s (a::l) (b::k)
 | f {id n:Nat} {cs l k:List AV} (h:s.get id=some (.cells cs)) (hp:BE cs=true) (t:Fz s l k):Fz s (.msl id 0 n::l) (.sl .lost n cs::k)
 | g {cs ds l k:List AV} (h:Fz s cs ds) (t:Fz s l k):Fz s (.agg cs::l) (.agg ds::k)
 | u {cs ds l k:List AV} (h:Fz s cs ds) (t:Fz s l k):Fz s (.C4 cs::l) (.C4 ds::k)
def Fz.ok{s:AS}{c:Cx}{w:World}(hs:St G c w s)(hb:∀g,some g∈c.CX->∀i,¬c.bad g i){l k:List AV}(h:Fz s l k):∀{us:List Value},CG c w l us->CG (c.upto 0 0) w k us:=by
 induction h with
 | nil=>intro us hr;cases hr;exact .nil
 | r h _ ih=>intro us hr;cases hr with | cons h1 t=>exact .cons (h _ _ _ h1) (ih t)
 | @f id n cs l k h hp _ ih =>
   intro us hr;cases hr with
   | cons h1 t =>
     refine .cons ?_ (ih t);cases h1 with
     | @msl _ _ _ g cap hn hid =>
       obtain⟨vs,ext,T,hw,hv⟩:=PX hs hid h;have hg:=List.mem_of_getElem? hid
       have IQ:∀g i v,Me c w g i v->Me (c.upto 0 0) w g i v:=λg i v hv=>⟨hv.1,λGP=>by
         rcases GP with GP | ⟨r,n',cap',NK,hr,_⟩ | GP
         simp[Cx.upto] at GP;simp[Cx.upto] at hr;exact hv.2.1 (.inr (.inr GP)),hv.2.2⟩
       refine .Ll hn (Be.O6 (CG.plain IQ hp hv) (λi v hi=>?_)) trivial;rw[Nat.zero_add];refine⟨hs.MM g hg,λGP=>?_,cell_of_heap hw (SF hi)⟩;rcases GP with GP | ⟨r,n',cap',NK,hr,_⟩ | GP
       simp[Cx.upto] at GP;simp[Cx.upto] at hr;exact hb g hg i GP
 | g _ _ pU yO=>intro us hr;cases hr with | cons h1 t=>cases h1 with | agg h2=>exact .cons (.agg (pU h2)) (yO t)
 | u _ _ pU yO=>intro us hr;cases hr with | cons h1 t=>cases h1 with | C4 h2=>exact .cons (.C4 (pU h2)) (yO t)
def sH.of{s:AS}{a v:AV}(h:Fz s [a] [v]):sH G s a v:=λc w u hs hb hr=>by
 have:=h.ok hs hb (.cons hr .nil);cases this with
 | cons h1 _=>exact h1
def aPI{t tx:TypeId}{a b:AV}{n:Nat}{m:AM}(h:Cd.ok P G (.apB t tx a b n m)):PC P G:=⟨.mb n m,[.apB t tx a b n m],⟨h,trivial⟩⟩
def OM.apm{α:Type}{f:α->List AV}{C:List α->List AV}{k:Nat}(h:OM f C k){t tx e e2 by':Nat}(hu:P.underlying t=some (.slice e))(hux:P.underlying tx=some (.slice e2))(hi:(P.info? e).map (λi=>(i.size,i.bytes,i.zero.map (·.cells.size)))=some (k,by',some k))(hk:0 < k)(hb:by'<=10000)(h1:∀x,(f x).all one=true)
   (m:List α) {o:Own} (hm:¬m.length=0) (hlen:m.length<=100000000):Cd.ok P G (.apB t tx (.sl .full 0 []) (.sl o m.length (C m)) m.length (.cells (C m))):=by
 cases hq:P.info? e with
 | none=>rw[hq] at hi;cases hi
 | some i =>
   rw[hq] at hi;simp only[Option.map_some,Option.some.injEq,Prod.mk.injEq] at hi;obtain⟨h3,h4,h5⟩:=hi;cases hz:i.zero with
   | none=>rw[hz] at h5;cases h5
   | some z =>
     intro s;refine axF hu hq hz (λs=>?_) hm (h.oB h1 m) (by rw[h4];exact Nat.le_trans (Nat.mul_le_mul hlen hb) (by decide)) (by omega) s;unfold UP;rw[hux,h3];simp only[h.eq,HV h.len,if_true]
end
end AI
namespace AI
open Go
end AI
namespace AI
open Go Go.RowKit
end AI
namespace AI
open Go Go.RowKit
abbrev EW:=Cx->World->Prop
abbrev QE:=AX->List AV->AS->EW->Prop
def EOk(e:AX)(fr:List AV)(c:Cx)(w:World)(e':Exit)(a:Act):Prop:=match e with
 | .normal=>e'=.normal/\CG c w fr a.tmps.toList
 | .exit id=>e'=.exit id/\CG c w fr a.tmps.toList
 | .ret=>e'=.ret/\CG c w fr a.tmps.toList
 | .pan v=>∃u,e'=.panic [{ v:=u,recovered:=false }]/\Rp c w v u
def EPost(G:Bc)(Q:QE)(K:Exit->Act->World->Prop):Prop:=∀e fr s E,Q e fr s E->∀(cx:Cx) (w:World) (a:Act) (e':Exit),E cx w->St G cx w s->a.defers=[]->EOk e fr cx w e' a->K e' a w
def WE(P:Program)(G:Bc)(E:EW)(c:Code)(fr:List AV)(s:AS)(Q:QE):Prop:=∀(cx:Cx) (w:World) (a:Act) (K:Exit->Act->World->Prop),E cx w->St G cx w s->CG cx w fr a.tmps.toList->a.defers=[]->EPost G Q K->c.wp P K a w
def PQ(P:Program)(G:Bc)(E:EW)(ops:Array Oper)(l:List Nat)(fr:List AV)(s:AS)(Q:QE):Prop:=∀(cx:Cx) (w:World) (a:Act) (K:Exit->Act->World->Prop),E cx w->St G cx w s->CG cx w fr a.tmps.toList->a.defers=[]->EPost G Q K->wpOps P ops K l a w
def UH(E:EW):Prop:=∀(cx:Cx) (w:World) (RD:Cx) (w':World),E cx w->Ext cx w RD w'->E RD w'
def EOk.P7{e:AX}{fr:List AV}{c:Cx}{w:World}{e':Exit}{a:Act}(h:EOk e fr c w e' a)(he:e≠.normal):e'≠.normal:=by
 cases e with
 | normal=>exact absurd rfl he
 | exit id=>intro h5;rw[h.1] at h5;cases h5
 | ret=>intro h5;rw[h.1] at h5;cases h5
 | pan v=>obtain⟨u,h5,_⟩:=h;intro h6;rw[h5] at h6;cases h6
section
variable {P:Program} {G:Bc} {E:EW} {fr:List AV} {s:AS} {Q:QE}
def WE.of(hm:P.follows .mixedOrders=true)(hk:UH E){c:Code}{Q0:AX->List AV->AS->Prop}(h:W P G (XS P G) H0 c fr s Q0)(hQ:∀e fr' s',Q0 e fr' s'->Q e fr' s' E):WE P G E c fr s Q:=by
 obtain⟨e,fr',s',hj,hq⟩:=h;have hS:=sound (Sb hm) hj;intro cx w a K hE hs hf hd hK;refine hS cx w a K hs hf hd ?_;rintro e' a' w' ⟨c',hx,hs',RF,h4⟩;refine hK e fr' s' E (hQ _ _ _ hq) c' w' a' e' (hk _ _ _ _ hE hx) hs' RF ?_;cases e<;>exact h4
def WE.seq{x y:Code}(h:WE P G E x fr s (λe fr' s' E'=>(e=.normal/\WE P G E' y fr' s' Q)\/(e≠.normal/\Q e fr' s' E'))):WE P G E (.seq x y) fr s Q:=by
 intro cx w a K hE hs hf hd hK;refine wp_seq (h cx w a _ hE hs hf hd ?_);rintro e fr' s' E' hq RD w' a' e' jM hs' RF U3;rcases hq with ⟨rfl,h2⟩ | ⟨hne,hq⟩
 obtain⟨rfl,Yw⟩:=U3;exact h2 RD w' a' K jM hs' Yw RF hK;exact Vk (U3.P7 hne) (hK _ _ _ _ hq _ _ _ _ jM hs' RF U3)
def WE.cond{q:Operand}{x y:Code}{t:Bool}(hq:Bd G fr q=some (.sc (.bool t)))(h:WE P G E (if t then x else y) fr s Q):WE P G E (.cond q x y) fr s Q:=by
 intro cx w a K hE hs hf hd hK;have hr:=EA hs hf hq
 have I6:a.eval q=.bool t:=by
   generalize a.eval q=v at hr;cases hr;rfl
 exact wp_cond I6 (h cx w a K hE hs hf hd hK)
def WE.skip(h:Q .normal fr s E):WE P G E .skip fr s Q:=λcx w a K hE hs hf hd hK=>wp_skip (hK _ _ _ _ h cx w a _ hE hs hd ⟨rfl,hf⟩)
def WE.exit{id:Nat}(h:Q (.exit id) fr s E):WE P G E (.exit id) fr s Q:=λcx w a K hE hs hf hd hK=>wp_exit (hK _ _ _ _ h cx w a _ hE hs hd ⟨rfl,hf⟩)
def WE.block{id:Nat}{c:Code}(h:WE P G E c fr s (λe fr' s' E'=>Q (E4 id e) fr' s' E')):WE P G E (.block id c) fr s Q:=by
 intro cx w a K hE hs hf hd hK;refine wp_block (h cx w a _ hE hs hf hd ?_);rintro e fr' s' E' hq RD w' a' e' jM hs' RF h4;cases e with
 | normal=>obtain⟨rfl,h5⟩:=h4;exact hK _ _ _ _ hq RD w' a' _ jM hs' RF ⟨rfl,h5⟩
 | exit Rl =>
   obtain⟨rfl,h5⟩:=h4;show if Rl=id then K .normal a' w' else K (.exit Rl) a' w'
   by_cases hid:Rl=id;rw[if_pos hid];refine hK _ _ _ _ hq RD w' a' _ jM hs' RF ?_;simp only[E4,hid,if_true];exact⟨rfl,h5⟩;rw[if_neg hid];refine hK _ _ _ _ hq RD w' a' _ jM hs' RF ?_;simp only[E4,hid,if_false];exact⟨rfl,h5⟩
 | ret=>obtain⟨rfl,h5⟩:=h4;exact hK _ _ _ _ hq RD w' a' _ jM hs' RF ⟨rfl,h5⟩
 | pan v=>obtain⟨u,rfl,h5⟩:=h4;exact hK _ _ _ _ hq RD w' a' _ jM hs' RF ⟨u,rfl,h5⟩
def WE.loop{L:Code}(I:Nat->List AV->AS->EW->Prop)(h:∀m fr s E,I m fr s E->WE P G E L fr s (λe fr' s' E'=>(e=.normal/\∃m',m' < m/\I m' fr' s' E')\/(e≠.normal/\Q e fr' s' E'))){m:Nat}(hi:I m fr s E):WE P G E (.loop L) fr s Q:=by
 have key:∀(n m:Nat) (fr:List AV) (s:AS) (E:EW),m < n->I m fr s E->∀(cx:Cx) (w:World) (a:Act) (K:Exit->Act->World->Prop),E cx w->St G cx w s->CG cx w fr a.tmps.toList->a.defers=[]->EPost G Q K->Code.rounds P L K n a w:=by
   intro n
   induction n with
   | zero=>intro m fr s E hm;omega
   | succ n ih =>
     intro m fr s E hm hi cx w a K hE hs hf hd hK;rw[rounds_succ];refine h m fr s E hi cx w a _ hE hs hf hd ?_;rintro e fr' s' E' hq RD w' a' e' jM hs' RF U3;rcases hq with ⟨rfl,m',hm',Nl⟩ | ⟨hne,hq⟩
     obtain⟨rfl,Yw⟩:=U3;exact ih m' fr' s' E' (by omega) Nl RD w' a' K jM hs' Yw RF hK;exact Vk (U3.P7 hne) (hK _ _ _ _ hq _ _ _ _ jM hs' RF U3)
 intro cx w a K hE hs hf hd hK;exact wp_loop_rounds (m+1) (key (m+1) m fr s E (Nat.lt_succ_self m) hi cx w a K hE hs hf hd hK)
def WE.region{id:Nat}{ops:Array Oper}(h:PQ P G E ops (List.range ops.size) fr s Q):WE P G E (.region id ops false) fr s Q:=λcx w a K hE hs hf hd hK=>wp_region (h cx w a K hE hs hf hd hK)
def PQ.nil{ops:Array Oper}(h:Q .normal fr s E):PQ P G E ops [] fr s Q:=λcx w a K hE hs hf hd hK=>hK _ _ _ _ h cx w a .normal hE hs hd ⟨rfl,hf⟩
def PQ.op(hm:P.follows .mixedOrders=true)(hk:UH E){ops:Array Oper}{i:Nat}{l:List Nat}{o:Oper}(v:AV){s1:AS}(ho:ops[i]?=some o)(hj:J P G (XS P G) H0 (.op ops o fr s (.ret v) s1))(t:PQ P G E ops l (IY fr o.dst v) s1 Q):PQ P G E ops (i::l) fr s Q:=by
 intro cx w a K hE hs hf hd hK;refine Mc ho (sound (Sb hm) hj cx w a _ _ hs (λx _=>fE hs hf x) (N1 (c:=cx) (w:=w) (λ_ _ _ _ _=>⟨fr,hf,rfl⟩)) ?_);intro u w' c' hx hs' hu;exact t c' w' (a.put o.dst u) K (hk _ _ _ _ hE hx) hs' (OY (hf.mono hx) hu) (by cases o.dst<;>exact hd) hK
def PQ.sem{E':EW}{ops:Array Oper}{i:Nat}{l:List Nat}{o:Oper}{fr2:List AV}(v:AV){s2:AS}(ho:ops[i]?=some o)(hg:o.guard=none)
   (h:∀(cx:Cx) (w:World) (a:Act),E cx w->St G cx w s->CG cx w fr a.tmps.toList->∃u w' RD,(execOp a.eval o).run P w=.ok (.value u) w'/\E' RD w'/\St G RD w' s2/\CG RD w' fr2 a.tmps.toList/\Rp RD w' v u)
   (t:PQ P G E' ops l (IY fr2 o.dst v) s2 Q):PQ P G E ops (i::l) fr s Q:=by
 intro cx w a K hE hs hf hd hK;refine Mc ho ?_;obtain⟨u,w',RD,hr,jM,hs',Yw,hu⟩:=h cx w a hE hs hf;unfold MW;have hw:Region.wanted o (yielded ops a.tmps)=true:=by unfold Region.wanted;rw[hg]
 rw[hw];simp only[if_true];unfold Oper.wp;rw[hr];exact t RD w' (a.put o.dst u) K jM hs' (OY Yw hu) (by cases o.dst<;>exact hd) hK
end
def aDC(b:Nat)(B:Nat->Nat->Prop)(w0:World)(E:EW):Prop:=∀(c:Cx) (w:World),E c w->c.base=b/\Below b w0 w/\(∀g i,B g i->c.bad g i)/\∀g i,some g∈c.CX->c.bad g i->g < b
def E0(b:Nat)(B:Nat->Nat->Prop)(w0:World):EW:=λc w=>c.base=b/\c.bad=B/\Below b w0 w
def E0.Hh{b:Nat}{B:Nat->Nat->Prop}{w0:World}:UH (E0 b B w0):=λcx w RD w' h hx=>⟨hx.base.trans h.1,hx.bad.trans h.2.1,h.2.2.trans (by have:=hx.below;rw[h.1] at this;exact this)⟩
def aGU{P:Program}{G:Bc}(hm:P.follows .mixedOrders=true)(hG:∀g cs,G g=some cs->BE cs=true){f:FuncId}{fn:Func}{c:Code}{args:List AV}{v:AV}(hf:P.funcs[f]?=some fn)(hb:fn.body=some c)
   (h:∀(b:Nat) (B:Nat->Nat->Prop) (w0:World),(∀g i,B g i->g < b)->WE P G (E0 b B w0) c (args++List.replicate (fn.ntmps - args.length) (.sc undef)) s0 (λe fr' s' E'=>(e=.normal\/e=.ret)/\aDC b B w0 E'/\∃a,GM P s' fn fr'=some a/\sH G s' a v))
   (hp:BE args=true) (hv:plain v=true):Pure P G f args v:=by
 intro s cx w vs hs GN
 have IQ:∀g i x,Me cx w g i x->Me ⟨w.heap.size,[],[],cx.Z7⟩ w g i x:=by
   intro g i x hx;refine⟨hx.1,λGP=>?_,hx.2.2⟩;rcases GP with GP | ⟨r,n,cap,sz,hr,_⟩ | GP
   cases GP;simp at hr;exact hx.2.1 GP
 have Gm:St G ⟨w.heap.size,[],[],cx.Z7⟩ w s0 :=
   ⟨rfl,trivial,(λi j g h1=>by simp at h1),(λg hg=>by cases hg),(λid g b h1=>by simp at h1),rfl,(λr g n cap sz hr=>by simp at hr),(λr n hr=>by cases hr),(λg hg=>by cases hg),(λg i hb=>hs.Uo hb),(λr r' g n cap sz n' cap' NK hr=>by simp at hr),(λg cs hg=>Be.plain IQ (hG g cs hg) (hs.M1 g cs hg)),Nat.le_refl _⟩
 have hl:=GN.len;refine calls_of_wp hf hb (h w.heap.size cx.Z7 w (λg i hb=>hs.Uo hb) ⟨w.heap.size,[],[],cx.Z7⟩ w _ _ ⟨rfl,rfl,Below.refl _ _⟩ Gm ?_ rfl ?_);simp only[Array.toList_append,Array.toList_replicate];rw[show vs.toArray.size=args.length by rw[List.size_toArray,hl]];exact(CG.plain IQ hp GN).append (CG.replicate (.sc rfl) _);rintro e fr' s' E' ⟨he,VN,a0,hr,hft⟩ c' w' a' e' jM M4 RF U3;obtain⟨h1,OO,h3,h4⟩:=VN c' w' jM
 have aNO:CG c' w' fr' a'.tmps.toList/\(e'=.normal\/e'=.ret):=by
   rcases he with rfl | rfl
   exact⟨U3.2,.inl U3.1⟩;exact⟨U3.2,.inr U3.1⟩
 obtain⟨hf5,he'⟩:=aNO;obtain⟨u,h6,h7⟩:=R3 M4 hf5 hr;obtain⟨x2,UF⟩:=hs.same (w':=w') ⟨OO.os,OO.tape,OO.output,OO.size,λk hk _=>OO.block k hk⟩
 have Lg:∀g,some g∈c'.CX->∀i,¬c'.bad g i:=λg hg i hb=>by
   have h5:=M4.low g hg;have:=h4 g i hg hb;omega
 have yL:=hft _ _ _ M4 Lg h7;have jT:aDE G cx w (.ret v) s (.returned u) w':=⟨cx,x2,UF,u,rfl,Rp.plain (c:=c'.upto 0 0) (λg i x jZ=>⟨jZ.1,λGP=>jZ.2.1 (.inr (.inr (h3 g i GP))),jZ.2.2⟩) hv yL⟩;rcases he' with rfl | rfl
 exact⟨RF,u,h6,jT⟩;exact⟨RF,u,h6,jT⟩
end AI
namespace AI
open Go Go.RowKit
def FY:Code->Array Oper
 | .region _ ops _=>ops
 | _=>#[]
def Sv:Code->Nat->Bool
 | .region _ ops d,n=>(match d with
   | false=>Nat.beq ops.size n
   | true=>false)
 | _,_=>false
def aPB:Oper:={ dst:=none,op:=.move (.tmp 0),type:=0,pos:="",after:=#[],guard:=none }
def opAt(c:Code)(i:Nat):Oper:=((FY c)[i]?).getD aPB
def vH{c:Code}{n:Nat}(h:Sv c n=true):(∃id,c=.region id (FY c) false)/\(FY c).size=n:=by
 unfold Sv at h;split at h;rename_i id ops d;split at h;exact⟨⟨id,rfl⟩,Nat.eq_of_beq_eq_true h⟩;cases h;cases h
def LA{c:Code}{n i:Nat}(h:Sv c n=true)(hi:i < n):(FY c)[i]?=some (opAt c i):=by
 have:=(vH h).2;unfold opAt;rw[Array.getElem?_eq_getElem (by omega)];rfl
def uH(o:Oper):Option (Operand×TypeId):=match o.guard with
 | none=>(match o.op with
   | .call cl=>(match cl.callee with
     | .builtin .len=>(match cl.args.toList with
       | [x]=>(match cl.argTypes.toList with
         | [t]=>some (x,t)
         | _=>none)
       | _=>none)
     | _=>none)
   | _=>none)
 | some _=>none
def iE(o:Oper):Option (Operand×Operand×TypeId×TypeId):=match o.guard with
 | none=>(match o.op with
   | .call cl=>(match cl.callee with
     | .builtin .append=>(match cl.args.toList with
       | [x,y]=>(match cl.argTypes.toList with
         | [t,tx]=>some (x,y,t,tx)
         | _=>none)
       | _=>none)
     | _=>none)
   | _=>none)
 | some _=>none
def vU(o:Oper):Option (TypeId×Operand×Operand):=match o.guard with
 | none=>(match o.op with
   | .slice t x lo hi mx=>(match lo with
     | none=>(match hi with
       | some y=>(match mx with
         | none=>some (t,x,y)
         | _=>none)
       | _=>none)
     | _=>none)
   | _=>none)
 | some _=>none
def aAD(o:Oper):Option (TypeId×Operand×Operand):=match o.guard with
 | none=>(match o.op with
   | .indexAddr t x y=>some (t,x,y)
   | _=>none)
 | some _=>none
def aAK(o:Oper):Option (TypeId×Operand):=match o.guard with
 | none=>(match o.op with
   | .load t x=>some (t,x)
   | _=>none)
 | some _=>none
def amW(o:Oper):Option (TypeId×Operand):=match o.guard with
 | none=>(match o.op with
   | .buildSlice t n ps=>(match n with
     | 1=>(match ps.toList with
       | [(0,x)]=>some (t,x)
       | _=>none)
     | _=>none)
   | _=>none)
 | some _=>none
section
variable {P:Program} {w:World} {ρ:Operand->Value} {o:Oper}
def yS{x:Operand}{t e:TypeId}{A:Option Addr}{n cap:Nat}(h:uH o=some (x,t))(hu:P.underlying t=some (.slice e))(ha:ρ x=.slice A n cap):o.guard=none/\(execOp ρ o).run P w=.ok (.value (.int .i64 n)) w:=by
 unfold uH at h;split at h;rename_i hg;refine⟨hg,?_⟩;split at h;rename_i cl ho;split at h;rename_i IN;split at h;rename_i x' hx;split at h;rename_i t' ht;cases h;have e1:cl.args=#[x]:=by apply Array.ext';rw[hx]
 have e2:cl.argTypes=#[t]:=by apply Array.ext';rw[ht]
 simp[execOp,ho,resolve,IN,e1,e2,invoke,builtin,ha,Builtin.len_,run_underlying hu,goInt];cases h;cases h;cases h;cases h;cases h
def aG{x y:Operand}{t tx:TypeId}{u:Value}{w':World}(h:iE o=some (x,y,t,tx))(hr:∀ty,(Builtin.append_ #[t,tx] ty #[ρ x,ρ y]).run P w=.ok u w'):o.guard=none/\(execOp ρ o).run P w=.ok (.value u) w':=by
 unfold iE at h;split at h;rename_i hg;refine⟨hg,?_⟩;split at h;rename_i cl ho;split at h;rename_i IN;split at h;rename_i x' y' hx;split at h;rename_i t' tx' ht;cases h;have e1:cl.args=#[x,y]:=by apply Array.ext';rw[hx]
 have e2:cl.argTypes=#[t,tx]:=by apply Array.ext';rw[ht]
 simp[execOp,ho,resolve,IN,e1,e2,invoke,builtin,hr];cases h;cases h;cases h;cases h;cases h
def iF{q:Operand×Operand×TypeId×TypeId}(h:iE o=some q):o.guard=none:=by
 unfold iE at h;split at h;rename_i hg;exact hg;cases h
def aaJ{x y:Operand}{t e:TypeId}{i:TypeInfo}{g n cap m:Nat}(h:vU o=some (t,x,y))(hu:P.underlying t=some (.slice e))(hi:P.info? e=some i)(ha:ρ x=.slice (some ⟨g,0,none⟩) n cap)(hy:ρ y=.int .i64 m)(hm:m<=cap):o.guard=none/\(execOp ρ o).run P w=.ok (.value (.slice (some ⟨g,0,none⟩) m cap)) w:=by
 unfold vU at h;split at h;rename_i hg;refine⟨hg,?_⟩;split at h;rename_i t' x' lo Nl mx ho;split at h;split at h;split at h;cases h;have b1:SD 0 none 0:=.inl ⟨rfl,rfl⟩;have b2:SD n (some (.int .i64 ((m:Nat):Int))) m:=.inr ⟨.i64,(m:Int),rfl,by omega,by simp⟩;simp only[execOp,ho,Option.map_none,Option.map_some,ha,hy,Instr.sliceAt,Sem.run_bind,run_underlying hu,Result.andThen_ok,Instr.slice,Un b1 b2 (Nat.zero_le m) hm,Sem.run_pure,CE hi];congr 3;split;rfl;simp[add_lit];cases h;cases h;cases h;cases h;cases h
def afP{x y:Operand}{t e:TypeId}{i:TypeInfo}{g n cap m:Nat}(h:aAD o=some (t,x,y))(hu:P.underlying t=some (.slice e))(hi:P.info? e=some i)(ha:ρ x=.slice (some ⟨g,0,none⟩) n cap)(hy:ρ y=.int .i64 m)(hm:m < n):o.guard=none/\(execOp ρ o).run P w=.ok (.value (.pointer (some ⟨g,m*i.size,none⟩))) w:=by
 unfold aAD at h;split at h;rename_i hg;refine⟨hg,?_⟩;split at h;rename_i t' x' y' ho;cases h;have h0:(0:Int)<=(m:Int):=by omega
 have h1:(m:Int) < (n:Int):=by omega
 simp[execOp,ho,ha,hy,Instr.indexAt,asIntOf,run_underlying hu,hm,CE hi,add_lit];cases h;cases h
def afV{x:Operand}{t:TypeId}{a:Addr}{u:Value}(h:aAK o=some (t,x))(ha:ρ x=.pointer (some a))(hr:(loadVar t a).run P w=.ok u w):o.guard=none/\(execOp ρ o).run P w=.ok (.value u) w:=by
 unfold aAK at h;split at h;rename_i hg;refine⟨hg,?_⟩;split at h;rename_i t' x' ho;cases h;simp[execOp,ho,ha,Instr.loadAt,Instr.sureAddr,hr];cases h;cases h
def acB{x:Operand}{t e:TypeId}{i:TypeInfo}{z:Value}(h:amW o=some (t,x))(hu:P.underlying t=some (.slice e))(hi:P.info? e=some i)(hs:i.size=1)(hz:i.zero=some z)(hzs:z.cells.size=1)(hv:(ρ x).cells=#[ρ x]):o.guard=none/\(execOp ρ o).run P w=.ok (.value (.slice (some ⟨w.heap.size,0,none⟩) 1 1)) { w with heap:=w.heap.push (.cells #[ρ x] e) }:=by
 unfold amW at h;split at h;rename_i hg;refine⟨hg,?_⟩;split at h;rename_i t' n ps ho;split at h;split at h;rename_i x' tU;cases h;have e1:ps=#[(0,x)]:=by apply Array.ext';rw[tU]
 have hf:∀B:Array Value,B.size=1->Instr.fill (λi=>some (i,1)) B [(0,ρ x)]=some #[ρ x]:=by
   intro B hB;obtain⟨b,rfl⟩:=Array.size_eq_one_iff.1 hB;simp[Instr.fill,hv]
 have h2:=hf ((Array.range 1).map (z.cells[· % z.cells.size]!)) (by simp);simp only[execOp,ho,e1,Instr.buildSlice,Sem.run_bind,run_underlying hu,Result.andThen_ok,CE hi,hs,Sem.run_ite,zeroValue,typeInfo,run_program,hi,hz,Sem.run_pure,List.map_toArray,List.map_cons,List.map_nil,Nat.mul_one,Nat.one_ne_zero,if_false,gt_iff_lt,show ¬(2 ^ 24 < 1) from by decide,newRow];rw[h2];simp;cases h;cases h;cases h;cases h
end
end AI
