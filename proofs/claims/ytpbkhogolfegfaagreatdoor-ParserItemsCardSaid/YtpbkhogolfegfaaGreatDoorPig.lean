/- Part of a proof: see the last text. -/
import Derived.Test.YtpbkhogolfegfaaGreatDoorPif
import Derived.Laws.StructEq
set_option linter.unusedVariables false
set_option linter.unusedSimpArgs false
set_option linter.defProp false
noncomputable section
namespace AI
open Go Go.RowKit
inductive Wn:List AV->List AV->Prop where
 | nil:Wn [] []
 | r {a:AV} {l k:List AV} (t:Wn l k):Wn (a::l) (a::k)
 | s {o:Own} {n:Nat} {cs ds l k:List AV} (h:cs=ds) (t:Wn l k):Wn (.sl o n cs::l) (.sl .lost n ds::k)
 | d {o:Own} {n:Nat} {cs ds es l k:List AV} (h:Wn cs ds) (e:ds=es) (t:Wn l k):Wn (.sl o n cs::l) (.sl .lost n es::k)
 | g {cs ds l k:List AV} (h:Wn cs ds) (t:Wn l k):Wn (.agg cs::l) (.agg ds::k)
 | u {cs ds l k:List AV} (h:Wn cs ds) (t:Wn l k):Wn (.CZ cs::l) (.CZ ds::k)
def Wn.refl:∀l:List AV,Wn l l
 | []=>.nil
 | _::l=>.r (Wn.refl l)
def Wn.len{l k:List AV}(h:Wn l k):l.length=k.length:=by
 induction h with
 | nil=>rfl
 | r _ ih=>simp[ih]
 | s _ _ ih=>simp[ih]
 | d _ _ _ _ ih=>simp[ih]
 | g _ _ _ ih=>simp[ih]
 | u _ _ _ ih=>simp[ih]
section
variable {c:Cx} {w:World}
mutual
def Wn.ok:∀{l k:List AV},Wn l k->∀{vs:List Value},CU c w l vs->CU c w k vs
 | _,_,.nil,_,hr=>hr
 | _,_,.r t,_,hr=>by cases hr with | cons h1 t1=>exact .cons h1 (t.ok t1)
 | _,_,.s h t,_,hr=>by
   subst h;cases hr with
   | cons h1 t1 =>
     refine .cons ?_ (t.ok t1);cases h1 with
     | sl0 _=>exact .sl0 trivial
     | M9 hn hc ho=>exact .M9 hn hc trivial
 | _,_,.d h e t,_,hr=>by
   subst e;cases hr with
   | cons h1 t1 =>
     refine .cons ?_ (t.ok t1);cases h1 with
     | sl0 _=>cases h;exact .sl0 trivial
     | M9 hn hc ho=>exact .M9 hn (h.okC hc) trivial
 | _,_,.g h t,_,hr=>by
   cases hr with
   | cons h1 t1 =>
     refine .cons ?_ (t.ok t1);cases h1 with
     | agg h2=>exact .agg (h.ok h2)
 | _,_,.u h t,_,hr=>by
   cases hr with
   | cons h1 t1 =>
     refine .cons ?_ (t.ok t1);cases h1 with
     | CZ h2=>exact .CZ (h.ok h2)
def Wn.okC:∀{l k:List AV},Wn l k->∀{g o:Nat},Bk c w g o l->Bk c w g o k
 | _,_,.nil,_,_,hr=>hr
 | _,_,.r t,_,_,hr=>by cases hr with | cons hv h1 t1=>exact .cons hv h1 (t.okC t1)
 | _,_,.s h t,_,_,hr=>by
   subst h;cases hr with
   | cons hv h1 t1 =>
     refine .cons hv ?_ (t.okC t1);cases h1 with
     | sl0 _=>exact .sl0 trivial
     | M9 hn hc ho=>exact .M9 hn hc trivial
 | _,_,.d h e t,_,_,hr=>by
   subst e;cases hr with
   | cons hv h1 t1 =>
     refine .cons hv ?_ (t.okC t1);cases h1 with
     | sl0 _=>cases h;exact .sl0 trivial
     | M9 hn hc ho=>exact .M9 hn (h.okC hc) trivial
 | _,_,.g h t,_,_,hr=>by
   cases hr with
   | cons hv h1 t1 =>
     refine .cons hv ?_ (t.okC t1);cases h1 with
     | agg h2=>exact .agg (h.ok h2)
 | _,_,.u h t,_,_,hr=>by
   cases hr with
   | cons hv h1 t1 =>
     refine .cons hv ?_ (t.okC t1);cases h1 with
     | CZ h2=>exact .CZ (h.ok h2)
end
end
def Wn.Wk{a b c d:List AV}(h:Wn a b)(k:Wn c d):Wn (a++c) (b++d):=by
 induction a generalizing b with
 | nil=>cases h;exact k
 | cons x a ih =>
   cases h with
   | r t=>exact .r (ih t)
   | s h t=>exact .s h (ih t)
   | d h e t=>exact .d h e (ih t)
   | g h t=>exact .g h (ih t)
   | u h t=>exact .u h (ih t)
def Rp.wnC{c:Cx}{w:World}{o:Own}{q:Nat}{cs ds:List AV}{u:Value}(h:Wn cs ds)(hr:Rp c w (.sl o q cs) u):Rp c w (.sl o q ds) u:=by
 cases hr with
 | sl0 h0=>cases h;exact .sl0 h0
 | M9 hn hc ho=>exact .M9 hn (h.okC hc) (by rw[<- h.len];exact ho)
def Fits.wn{n m:Nat}{a b:AV}(h:Wn [a] [b])(hp:AI.plain b=true):Fits n m a b:=λc w v hr=>by
 have:=h.ok (.cons hr .nil);cases this with
 | cons h1 _=>exact Fits.plain hp c w v h1
section
variable {P:Program} {G:Bc}
def CN(hm:P.follows .mixedOrders=true)(hG:∀g cs,G g=some cs->BN cs=true){f:FuncId}{args:List AV}{v:AV}(h:WC P G (XS P G) H0 f args s0 (λr _=>∃a,r=.ret a/\Fits 0 0 a v))(hp:BN args=true)(hv:plain v=true):Pure P G f args v:=by
 obtain⟨r,s',hj,a,rfl,hf⟩:=h;have hS:=sound (TJ hm) hj;intro s cx w vs hs IB
 have Nu:∀g i x,PJ cx w g i x->PJ ⟨w.heap.size,[],[],cx.yA⟩ w g i x:=by
   intro g i x hx;refine⟨hx.1,λKj=>?_,hx.2.2⟩;rcases Kj with Kj | ⟨r,n,cap,sz,hr,_⟩ | Kj
   cases Kj;simp at hr;exact hx.2.1 Kj
 have Gr:St G ⟨w.heap.size,[],[],cx.yA⟩ w s0 :=
   ⟨rfl,trivial,(λi j g h1=>by simp at h1),(λg hg=>by cases hg),(λid g b h1=>by simp at h1),rfl,(λr g n cap sz hr=>by simp at hr),(λr n hr=>by cases hr),(λg hg=>by cases hg),(λg i hb=>hs.fL hb),(λr r' g n cap sz n' cap' PM hr=>by simp at hr),(λg cs hg=>Bk.plain Nu (hG g cs hg) (hs.Pm g cs hg)),Nat.le_refl _⟩
 refine(hS _ w vs Gr (CU.plain Nu hp IB)).mono ?_;rintro e w' ⟨c',hx,_,u,rfl,hu⟩;have ZQ:=hx.below;obtain⟨x2,Xx⟩:=hs.same (w':=w') ⟨ZQ.os,ZQ.tape,ZQ.output,ZQ.size,λk hk _=>ZQ.block k hk⟩;refine⟨cx,x2,Xx,u,rfl,Rp.plain (c:=c'.upto 0 0) (λg i x hvv=>⟨hvv.1,λKj=>hvv.2.1 (.inr (.inr ?_)),hvv.2.2⟩) hv (hf _ _ _ hu)⟩;show c'.bad g i;rw[hx.bad];exact Kj
def Ku(P:Program)(fn:Func)(m:Nat)(Q:AX->List AV->AS->Prop)(v:AV):Prop:=∀a s2,Fits 0 0 a v->RV P fn m Q a s2
def Ku.body{fn:Func}{m:Nat}{v:AV}:Ku P fn m (UD P fn m (λr _=>∃a,r=.ret a/\Fits 0 0 a v)) v:=λa _ h=>.body ⟨a,rfl,h⟩
def Ku.outer{fn:Func}{m id:Nat}{ks:List KI}{Q:AX->List AV->AS->Prop}{v:AV}(h:Ku P fn m Q v):Ku P fn m (EM id (Ee P G ks Q)) v:=λa s2 hf=>(h a s2 hf).outer
def S7{δ J:Type}(Q:AX->List AV->AS->Prop)(id:Nat)(F:δ->J->List AV)(S:δ->J->AS)(Ok:J->Prop)(d:δ):Prop:=∀j,Ok j->Q (.exit id) (F d j) (S d j)
def aoJ(P:Program)(fn:Func):HR->Option (List Cd×AV)
 | some (.fin .ret,[],cd,fr,s)=>(match JF P s fn fr with
   | some v=>some (cd,v)
   | none=>none)
 | _=>none
def AA{r:HR}{X:Prop}{Q:AX->List AV->AS->Prop}{v w:AV}(fn:Func)(m:Nat){l:List (PC P G)}(R:VB P G l Q r X)(h:aoJ P fn r=some (nB l,v))(k:Ku P fn m Q w)(hf:Fits 0 0 v w):X:=by
 unfold aoJ at h;split at h;rename_i cd fr' s';split at h;rename_i v' hv;simp only[Option.some.injEq,Prod.mk.injEq] at h;obtain⟨rfl,rfl⟩:=h;exact R _ _ _ _ rfl (Pu l) (k _ _ hf _ _ hv rfl);cases h;cases h
def Ku.Gb{fn:Func}{m:Nat}{L:Code}{s0:AS}{Q:AX->List AV->AS->Prop}{v:AV}(h:Ku P fn m Q v):Ku P fn m (Ua P G L s0 Q) v:=h
def LZ{δ ρ β:Type}(k:δ->Option β)(kr:ρ->Option β):δ⊕ρ->Option β
 | .inl d=>k d
 | .inr v=>kr v
def pk:PC P G:=⟨.k,[],trivial⟩
def pb{B b:Bool}(h:B=b):PC P G:=⟨.b b,[.eqb B b],⟨h,trivial⟩⟩
def pn{B b:Bool}(h:B=b):PC P G:=⟨.b (!b),[.eqb (!B) (!b)],⟨by show(!B)=(!b);rw[h],trivial⟩⟩
def axQ{i:Nat}(h:i < 9223372036854775807):Nl .i64 (aaK ((i:Nat):Int) 1)=((i+1:Nat):Int):=by
 rw[Vr,cQ];have:=ajD (i:=i+1) (by omega);rw[<- this];rfl
def aMI(i:Nat)(h:i < 9223372036854775807):PC P G:=⟨.i ((i+1:Nat):Int),[.eqi (Nl .i64 (aaK ((i:Nat):Int) 1)) ((i+1:Nat):Int)],⟨axQ h,trivial⟩⟩
def AG{f:FuncId}{args:List AV}{v:AV}(h:Pure P G f args v):PC P G:=⟨.w v,[.pur f args v],⟨h,trivial⟩⟩
def GO{f:FuncId}{args Wo:List AV}{v:AV}(w:Wn args Wo)(h:Pure P G f Wo v):PC P G:=⟨.w v,[.pur f args v],⟨λs cx wd vs hs ha=>h s cx wd vs hs (w.ok ha),trivial⟩⟩
def Jp{t:TypeId}{a b v:AV}(h:Dw P t a b=some v):PC P G:=⟨.w v,[.idx t a b v],⟨h,trivial⟩⟩
def Sl{t:TypeId}{a b v:AV}(h:Lk P t a b=some v):PC P G:=⟨.w v,[.ix t a b v],⟨h,trivial⟩⟩
def ND{op:BinOp}{t:TypeId}{x y:Operand}{a b v:AV}(h:LP P op t x y a b=some v):PC P G:=⟨.w v,[.bin op t x y a b v],⟨h,trivial⟩⟩
def OO{t:TypeId}{a:AV}{l h m:Option AV}{v:AV}(e:L2 P t a l h m=some v):PC P G:=⟨.o v,[.sli t a l h m v],⟨e,trivial⟩⟩
def Bt(a b:Int):Int:=Nl .i64 (aaK a b)
def LV(a b:Int):Int:=Nl .i64 (fN a b)
def BQ(a b:Int):Int:=Nl .i64 (a*b)
def Hu{α:Type}(l:List α)(z:Int):Option α:=if 0<=z then l[z.toNat]? else none
structure Rk{α:Type}(f:α->List AV)(C:List α->List AV)(k:Nat):Prop where
 eq:∀l,C l=rows f l
 len:∀x,(f x).length=k
 pl:∀x,BN (f x)=true
def Rk.Wk{α:Type}{f:α->List AV}{C:List α->List AV}{k:Nat}(h:Rk f C k)(l m:List α):C (l++m)=C l++C m:=by rw[h.eq,h.eq,h.eq,WI]
def Rk.cons{α:Type}{f:α->List AV}{C:List α->List AV}{k:Nat}(h:Rk f C k)(x:α)(m:List α):C (x::m)=f x++C m:=by rw[h.eq,h.eq,I2]
def Rk.A1{α:Type}{f:α->List AV}{C:List α->List AV}{k:Nat}(h:Rk f C k)(l:List α):BN (C l)=true:=by rw[h.eq];exact qC λx _=>h.pl x
def Rk.Ky{α:Type}{f:α->List AV}{C:List α->List AV}{k:Nat}(h:Rk f C k)(l:List α):plain (.sl .lost l.length (C l))=true:=by simp only[plain,h.A1];rfl
def Rk.Cp{α:Type}{f:α->List AV}{C:List α->List AV}{k:Nat}(h:Rk f C k)(x:α):plain (.agg (f x))=true:=h.pl x
def Rk.ix{α:Type}{f:α->List AV}{C:List α->List AV}{k:Nat}(h:Rk f C k){t elem:TypeId}(hu:P.underlying t=some (.slice elem))(hs:(P.info? elem).map (·.size)=some k)(own:Own){l:List α}{i:Nat}{x:α}(hx:l[i]?=some x):Dw P t (.sl own l.length (C l)) (.sc (.int .i64 ((i:Nat):Int)))=some (.el (f x++C (l.drop (i+1)))):=by
 cases hi:P.info? elem with
 | none=>rw[hi] at hs;cases hs
 | some e =>
   rw[hi] at hs;rw[h.eq,h.eq];exact oW hu hi (by simpa using hs) h.len hx
def Rk.ixz{α:Type}{f:α->List AV}{C:List α->List AV}{k:Nat}(h:Rk f C k){t elem:TypeId}(hu:P.underlying t=some (.slice elem))(hs:(P.info? elem).map (·.size)=some k)(own:Own){l:List α}{z:Int}{x:α}(hx:Hu l z=some x):Dw P t (.sl own l.length (C l)) (.sc (.int .i64 z))=some (.el (f x++C (l.drop (z.toNat+1)))):=by
 unfold Hu at hx;split at hx;rename_i hz;have:=h.ix hu hs own hx;rwa[Int.toNat_of_nonneg hz] at this;cases hx
def Rk.wn{α:Type}{f:α->List AV}{C:List α->List AV}{k:Nat}(h:Rk f C k)(m:List α){a:List AV}(w:Wn a (rows f m)):Wn a (C m):=by rw[h.eq];exact w
def WJ{α:Type}{f:α->List AV}{k:Nat}(hf:∀x,(f x).length=k)(l:List α)(i:Nat):(rows f l).drop (i*k)=rows f (l.drop i):=by
 induction l generalizing i with
 | nil=>simp[rows]
 | cons x l ih =>
   cases i with
   | zero=>simp
   | succ i =>
     rw[I2,List.drop_append,hf x,List.drop_eq_nil_of_le (by rw[hf x,Nat.add_mul];omega),List.nil_append,List.drop_succ_cons,<- ih i];congr 1;rw[Nat.add_mul];omega
def WK{α:Type}{f:α->List AV}{k:Nat}(hf:∀x,(f x).length=k)(l:List α)(i:Nat):(rows f l).take (i*k)=rows f (l.take i):=by
 induction l generalizing i with
 | nil=>simp[rows]
 | cons x l ih =>
   cases i with
   | zero=>simp[rows]
   | succ i =>
     rw[I2,List.take_append,hf x,List.take_of_length_le (by rw[hf x,Nat.add_mul];omega),List.take_succ_cons,I2,<- ih i];congr 2;rw[Nat.add_mul];omega
def Rk.sub{α:Type}{f:α->List AV}{C:List α->List AV}{k:Nat}(h:Rk f C k){t elem:TypeId}(hu:P.underlying t=some (.slice elem))(hs:(P.info? elem).map (·.size)=some k)(l q:Nat){s:List α}(h1:l<=q)(h2:q<=s.length)(lo hi:Option AV)(e1:NT 0 lo=some l)(e2:NT s.length hi=some q) :
   L2 P t (.sl .lost s.length (C s)) lo hi none=some (.sl .lost ((s.drop l).take (q - l)).length (C ((s.drop l).take (q - l)))):=by
 cases Nt:P.info? elem with
 | none=>rw[Nt] at hs;cases hs
 | some e =>
   rw[Nt] at hs;have hk:e.size=k:=by simpa using hs
   unfold L2;simp only[hu,Nt,e1,e2,hk];rw[if_pos ⟨h1,h2,by rw[h.eq,Sx h.len]⟩]
   have e3:(if l=0/\q=s.length then Own.lost else if q=s.length/\Own.lost=.full then .full else .lost)=.lost:=by
     split;rfl;split;rename_i hq;exact absurd hq.2 (by decide);rfl
   rw[e3,h.eq,h.eq,WJ h.len,WK h.len];congr 2;simp;omega
def wC{β:Type}(f:Nat->Option β):Option β:=open Classical in if h:∃y,∃n0:Nat,∀n,n0<=n->f n=some y then some (Classical.choose h) else none
def iQ{β:Type}{f:Nat->Option β}{y:β}(h:wC f=some y):∃n,f n=some y:=by
 unfold wC at h;split at h;rename_i hx;obtain⟨n0,hn⟩:=Classical.choose_spec hx;rw[Option.some.inj h] at hn;exact⟨n0,hn n0 (Nat.le_refl _)⟩;cases h
def TH{β:Type}{f:Nat->Option β}{y:β}(n0:Nat)(h:∀n,n0<=n->f n=some y):wC f=some y:=by
 unfold wC;have hx:∃y,∃n0:Nat,∀n,n0<=n->f n=some y:=⟨y,n0,h⟩;rw[dif_pos hx];obtain⟨n1,hn⟩:=Classical.choose_spec hx;have h1:=h (max n0 n1) (Nat.le_max_left _ _);have h2:=hn (max n0 n1) (Nat.le_max_right _ _);rw[h1] at h2;rw[Option.some.inj h2]
def MH{β:Type}(n:Nat)(x:Option β):Option β:=if n<=100000000 then x else none
def aeQ{β:Type}{n:Nat}{x:Option β}{r:β}(h:MH n x=some r):n<=100000000/\x=some r:=by
 unfold MH at h;split at h;rename_i h1;exact⟨h1,h⟩;cases h
def Rk.ZP{α:Type}{f:α->List AV}{C:List α->List AV}{k:Nat}(h:Rk f C k){t tx e e2 by':Nat}(hu:P.underlying t=some (.slice e))(hux:P.underlying tx=some (.slice e2))(hi:(P.info? e).map (λi=>(i.size,i.bytes,i.zero.map (·.cells.size)))=some (k,by',some k))(hk:0 < k)(hb:by'<=10000)
   (own:Own) (l m:List α) {o:Own} {n:Nat} {ns:List AV} (hn:Wn ns (C m)) (oP:n=m.length) (ho:ns.all one=true) (hm:m.length≠0) (hlen:l.length+m.length<=100000000):Cd.ok P G (.ZP t tx own l.length (C l) (.sl o n ns) k (l++m).length (C (l++m))):=by
 subst oP;cases hq:P.info? e with
 | none=>rw[hq] at hi;cases hi
 | some i =>
   rw[hq] at hi;simp only[Option.map_some,Option.some.injEq,Prod.mk.injEq] at hi;obtain⟨h1,h2,h3⟩:=hi;cases hz:i.zero with
   | none=>rw[hz] at h3;cases h3
   | some z =>
     rw[hz] at h3;simp only[Option.map_some,Option.some.injEq] at h3;intro s QN;have hnl:ns.length=m.length*k:=by rw[hn.len,h.eq,Sx h.len]
     have wN:(C l).length=l.length*k:=by rw[h.eq,Sx h.len]
     refine⟨C l++ns,?_,λc w u o' hr=>?_⟩
     have hs:hU P s i.size tx (.sl o m.length ns)=some (m.length,ns):=by
       unfold hU;rw[hux,h1];simp only[hnl,if_true]
     unfold Mi;simp only[hu,hq,hz];rw[if_pos ⟨by rw[h3,h1],by omega⟩,hs];simp only
     have hbb:(l.length+m.length)*i.bytes<=140737488355328:=by
       rw[h2];exact Nat.le_trans (Nat.mul_le_mul hlen hb) (by decide)
     rw[if_pos ⟨by rw[wN,h1],ho,hbb,by omega⟩,if_neg hm,h1,if_pos QN,List.length_append];rw[h.Wk];exact Rp.wnC (Wn.Wk (Wn.refl (C l)) hn) hr
def Qg{t tx:TypeId}{own:Own}{n:Nat}{cs:List AV}{b:AV}{sz k:Nat}{rJ:List AV}(h:Cd.ok P G (.ZP t tx own n cs b sz k rJ)):PC P G :=
 match own with
 | .row r z=>⟨.g sz k rJ,[.ZP t tx (.row r z) n cs b sz k rJ,.eqn n n],⟨h,rfl,trivial⟩⟩
 | .full=>⟨.g sz k rJ,[.ZP t tx .full n cs b sz k rJ],⟨h,trivial⟩⟩
 | _=>⟨.g sz k rJ,[],trivial⟩
def A1{a:AV}{l:List AV}(h:plain a=true)(t:BN l=true):BN (a::l)=true:=by simp only[BN,h,t];rfl
def atN{a b:List AV}(ha:BN a=true)(hb:BN b=true):BN (a++b)=true:=by
 induction a with
 | nil=>exact hb
 | cons x a ih =>
   simp only[BN,Bool.and_eq_true,List.cons_append] at ha ⊢;exact⟨ha.1,ih ha.2⟩
def IX{n m:Nat}{a:AV}{l:List AV}(h:under n m a=true)(t:FD n m l=true):FD n m (a::l)=true:=by simp only[FD,h,t];rfl
end
end AI
namespace AI
open Go Go.RowKit
def Kb{P:Program}{α β:Type}(m:Sem α)(f:α->Sem β):pv P (m >>= f)=(pv P m).bind λa=>pv P (f a):=by
 show pv P (m.bind f)=_
 induction m with
 | pure a=>rfl
 | program k ih=>exact ih P
 | mark _ k ih=>exact ih
 | _=>rfl
def NF{P:Program}{α:Type}(a:α):pv P (pure a:Sem α)=some a:=rfl
def T3{P:Program}:pv P program=some P:=rfl
def Kz{P:Program}{t:TypeId}{d:TypeDesc}(h:P.underlying t=some d):pv P (underlying t)=some d:=by
 unfold underlying;rw[Kb,T3];simp only[Option.bind_some,h];rfl
def azB{P:Program}{α:Type}(c:Prop)[Decidable c](a b:Sem α):pv P (if c then a else b)=if c then pv P a else pv P b:=by split<;>rfl
def U9{P:Program}(d:Nat)(t:TypeId)(xs ys:Array Value)(ht:P.underlying t=some (.struct (P.fieldsOf t)))(hp:P.stoodInHeld t=false) :
   pv P (Op.equalIn (d+1) t (.agg xs) (.agg ys))=pv P (Op.eqFields d xs ys (P.fieldsOf t).toList):=by
 simp only[Op.equalIn,Kb,Kz ht,Option.bind_some,T3,hp,Bool.false_eq_true,if_false];rw[<- Array.forIn_toList];generalize (P.fieldsOf t).toList=fs;clear ht
 induction fs with
 | nil=>simp[Op.eqFields,NF]
 | cons f fs ih =>
   simp only[List.forIn_cons,Op.eqFields,Kb,azB];split
   · generalize pv P (part f.type xs f.offset)=r1
     cases r1 with
     | none=>simp
     | some a =>
       simp only[Option.bind_some];generalize pv P (part f.type ys f.offset)=r2;cases r2 with
       | none=>simp
       | some b =>
         simp only[Option.bind_some];generalize pv P (Op.equalIn d f.type a b)=r3;cases r3 with
         | none=>simp
         | some r =>
           cases r;simp[NF];simp only[Option.bind_some,Bool.not_true,Bool.false_eq_true,if_false,NF];exact ih
   simp only[NF,Option.bind_some];exact ih
def anZ{P:Program}{t:TypeId}{k:IntKind}(h:P.underlying t=some (.int k))(cs:Array Value)(off:Nat){v:Value}(hv:cs[off]?=some v):pv P (part t cs off)=some v:=by
 unfold part isAgg;simp[Kb,Kz h,NF,hv]
def Y0{P:Program}(d:Nat){t:TypeId}{k k':IntKind}(a b:Int)(h:P.underlying t=some (.int k')):pv P (Op.equalIn (d+1) t (.int k a) (.int k b))=some (a == b):=by
 simp[Op.equalIn,Kb,Kz h,NF]
def kH{P:Program}(op:BinOp)(t:TypeId)(x y:Operand)(xs ys:Array Value)(hm:P.eqGuardType P.depth t=false):pv P (eqGuard op t x y (.agg xs) (.agg ys))=some ():=by
 cases op<;>simp[eqGuard,Kb,T3,hm,NF]
def R9(P:Program)(t:TypeId):Nat:=match P.underlying t with
 | some (.int _)=>1
 | some .string=>2
 | _=>0
def fEq:Value->Value->Option Bool
 | .int k a,.int k' b=>if k=k' then some (a == b) else none
 | .string a,.string b=>some (a == b)
 | _,_=>none
def ZL:List Value->List Value->Option Bool
 | [],[]=>some true
 | a::as,b::bs=>(fEq a b).bind λr=>(match r with | true=>ZL as bs | false=>some false)
 | _,_=>none
def kI{P:Program}{t:TypeId}(h:R9 P t≠0)(cs:Array Value)(off:Nat){v:Value}(hv:cs[off]?=some v):pv P (part t cs off)=some v:=by
 unfold R9 at h;split at h;rename_i h1;exact anZ h1 cs off hv;rename_i h1;unfold part isAgg;simp[Kb,Kz h1,NF,hv];exact absurd rfl h
def azA{P:Program}(d:Nat){t:TypeId}{a b:Value}{r:Bool}(hk:(∃k n m,a=.int k n/\b=.int k m/\R9 P t=1)\/(∃x y,a=.string x/\b=.string y/\R9 P t=2))(h:fEq a b=some r):pv P (Op.equalIn (d+1) t a b)=some r:=by
 rcases hk with ⟨k,n,m,rfl,rfl,hk⟩ | ⟨x,y,rfl,rfl,hk⟩
 unfold R9 at hk;split at hk;rename_i h1;simp only[fEq,if_true] at h;rw[Y0 d n m h1];exact h;cases hk;cases hk;unfold R9 at hk;split at hk;cases hk;rename_i h1;simp only[fEq] at h;rw[<- h];simp[Op.equalIn,Kb,Kz h1,NF];cases hk
def iT:List Nat->List Value->Prop
 | [],[]=>True
 | k::ks,v::vs=>((∃n,v=.int .i64 n/\k=1)\/(∃x,v=.string x/\k=2))/\iT ks vs
 | _,_=>False
def xI{P:Program}(d:Nat):∀(fs:List Field) (off:Nat) (ks:List Nat) (xs ys:List Value) (us vs:List Value) (r:Bool),fs.map (λf=>R9 P f.type)=ks->(∀(i:Nat) f,fs[i]?=some f->f.name≠"_"/\f.offset=off+i)->xs.drop off=us->ys.drop off=vs->iT ks us->iT ks vs->ZL us vs=some r->pv P (Op.eqFields (d+1) xs.toArray ys.toArray fs)=some r:=by
 intro fs
 induction fs with
 | nil =>
   intro off ks xs ys us vs r gL _ hx hy h1 h2 h;cases ks with
   | cons=>cases gL
   | nil =>
     cases us<;>cases vs<;>simp only[iT,ZL] at h1 h2 h
     rw[<- h];rfl
 | cons f fs ih =>
   intro off ks xs ys us vs r gL hf hx hy h1 h2 h;cases ks with
   | nil=>cases gL
   | cons k ks =>
     cases us with
     | nil=>cases h1
     | cons u us =>
       cases vs with
       | nil=>cases h2
       | cons v vs =>
         simp only[List.map_cons,List.cons.injEq] at gL;obtain⟨hk,gL⟩:=gL;obtain⟨hn,ho⟩:=hf 0 f rfl;rw[Nat.add_zero] at ho;have hxu:xs.toArray[off]?=some u:=by rw[List.getElem?_toArray,<- List.head?_drop,hx];rfl
         have hyv:ys.toArray[off]?=some v:=by rw[List.getElem?_toArray,<- List.head?_drop,hy];rfl
         have hk0:R9 P f.type≠0:=by
           rw[hk];rcases h1.1 with ⟨_,_,e⟩ | ⟨_,_,e⟩<;>omega
         have hkk:(∃k n m,u=.int k n/\v=.int k m/\R9 P f.type=1)\/(∃x y,u=.string x/\v=.string y/\R9 P f.type=2):=by
           rw[hk];rcases h1.1 with ⟨n,e1,e2⟩ | ⟨n,e1,e2⟩<;>rcases h2.1 with ⟨m,e3,e4⟩ | ⟨m,e3,e4⟩
           exact .inl ⟨_,n,m,e1,e3,e2⟩;omega;omega;exact .inr ⟨n,m,e1,e3,e2⟩
         simp only[ZL] at h;cases hq:fEq u v with
         | none=>rw[hq] at h;cases h
         | some q =>
           rw[hq] at h;simp only[Op.eqFields,hn,ne_eq,not_false_eq_true,if_true,ho];simp only[Kb,kI hk0 xs.toArray off hxu,kI hk0 ys.toArray off hyv,Option.bind_some,azA d hkk hq];cases q with
           | false =>
             have:r=false:=by simpa using h.symm
             subst this;rfl
           | true =>
             have ih:=ih (off+1) ks xs ys us vs r gL (λi f' hi=>by
               have:=hf (i+1) f' (by simpa using hi)
               exact⟨this.1,by rw[this.2];omega⟩) (by rw[<- List.tail_drop,hx];rfl) (by rw[<- List.tail_drop,hy];rfl) h1.2 h2.2 (by simpa using h)
             simpa using ih
structure Flat(P:Program)(t:TypeId)(ks:List Nat):Prop where
 st:P.underlying t=some (.struct (P.fieldsOf t))
 hp:P.stoodInHeld t=false
 hm:P.eqGuardType P.depth t=false
 kd:(P.fieldsOf t).toList.map (λf=>R9 P f.type)=ks
 nm:(P.fieldsOf t).toList.map (λf=>decide (f.name≠"_"))=List.replicate ks.length true
 of:(P.fieldsOf t).toList.map (λf=>f.offset)=List.range ks.length
def yO(vs:List Value):O6 (vs.map .sc)=some vs:=by
 induction vs with
 | nil=>rfl
 | cons v vs ih=>simp[O6,Zh,ih]
def Flat.pv{P:Program}{t:TypeId}{ks:List Nat}(h:Flat P t ks){us vs:List Value}{r:Bool}(h1:iT ks us)(h2:iT ks vs)(h3:ZL us vs=some r):AI.pv P (Op.equalIn (9998+1+1) t (.agg us.toArray) (.agg vs.toArray))=some r:=by
 rw[U9 _ _ _ _ h.st h.hp];refine xI 9998 _ 0 ks us vs us vs r h.kd (λi f hf=>?_) rfl rfl h1 h2 h3
 have hl:i < ks.length:=by
   have:=(List.getElem?_eq_some_iff.1 hf).1;have h5:=congrArg List.length h.kd;simp at h5 this;omega
 have a1:=congrArg (λl=>l[i]?) h.nm;have a2:=congrArg (λl=>l[i]?) h.of;simp only[List.getElem?_map,hf,Option.map_some,List.getElem?_replicate,hl,if_true,Option.some.injEq,decide_eq_true_eq] at a1;simp only[List.getElem?_map,hf,Option.map_some,List.getElem?_range hl,Option.some.injEq] at a2;exact⟨a1,by omega⟩
def Flat.bin{P:Program}{t:TypeId}{ks:List Nat}(h:Flat P t ks){us vs:List Value}{r:Bool}(h1:iT ks us)(h2:iT ks vs)(h3:ZL us vs=some r)(x y:Operand) :
   LP P .eql t x y (.agg (us.map .sc)) (.agg (vs.map .sc))=some (.sc (.bool r))/\LP P .neq t x y (.agg (us.map .sc)) (.agg (vs.map .sc))=some (.sc (.bool (!r))):=by
 have ht:∀l:List Value,Vj (.agg (l.map .sc))=some (.agg l.toArray):=λl=>by simp only[Vj,yO,Option.map_some]
 have hv:=h.pv h1 h2 h3
 have e1:AI.pv P (do eqGuard .eql t x y (.agg us.toArray) (.agg vs.toArray);binOp .eql t (.agg us.toArray) (.agg vs.toArray))=some (.bool r):=by
   rw[Kb,kH _ _ _ _ _ _ h.hm];simp only[Option.bind_some,binOp,Kb,Op.equal,Op.maxDepth];rw[show(10000:Nat)=9998+1+1 from rfl,hv];rfl
 have e2:AI.pv P (do eqGuard .neq t x y (.agg us.toArray) (.agg vs.toArray);binOp .neq t (.agg us.toArray) (.agg vs.toArray))=some (.bool (!r)):=by
   rw[Kb,kH _ _ _ _ _ _ h.hm];simp only[Option.bind_some,binOp,Kb,Op.equal,Op.maxDepth];rw[show(10000:Nat)=9998+1+1 from rfl,hv];rfl
 refine⟨?_,?_⟩;show Rl _ _ _ _ _ (.agg _) (.agg _)=_;unfold Rl;simp only[ht,e1,Option.bind_some];rfl;show Rl _ _ _ _ _ (.agg _) (.agg _)=_;unfold Rl;simp only[ht,e2,Option.bind_some];rfl
def aAO(x y:Int):Int:=if y > x then y else x
end AI
namespace AI
open Go Go.RowKit
mutual
inductive Rn(k j:Nat)(ρ σ:Nat->Nat):AV->AV->Prop where
 | pl {a:AV} (h:plain a=true):Rn k j ρ σ a a
 | ptr {i off:Nat} (h:i < k):Rn k j ρ σ (.ptr i off) (.ptr (ρ i) off)
 | mp {i:Nat} (h:i < k):Rn k j ρ σ (.mp i) (.mp (ρ i))
 | msl {i off n:Nat} (h:i < k):Rn k j ρ σ (.msl i off n) (.msl (ρ i) off n)
 | row {r sz n:Nat} {cs:List AV} (h:r < j) (hp:BN cs=true):Rn k j ρ σ (.sl (.row r sz) n cs) (.sl (.row (σ r) sz) n cs)
 | agg {cs ds:List AV} (h:Uv k j ρ σ cs ds):Rn k j ρ σ (.agg cs) (.agg ds)
 | CZ {cs ds:List AV} (h:Uv k j ρ σ cs ds):Rn k j ρ σ (.CZ cs) (.CZ ds)
 | fn {f:Fn} {a a' b b':List AV} (h1:Uv k j ρ σ a a') (h2:Uv k j ρ σ b b'):Rn k j ρ σ (.fn f a b) (.fn f a' b')
inductive Uv(k j:Nat)(ρ σ:Nat->Nat):List AV->List AV->Prop where
 | nil:Uv k j ρ σ [] []
 | cons {a b:AV} {l m:List AV} (h:Rn k j ρ σ a b) (t:Uv k j ρ σ l m):Uv k j ρ σ (a::l) (b::m)
end
inductive vA(k j:Nat)(ρ σ:Nat->Nat):Bl->Bl->Prop where
 | cells {cs ds:List AV} (h:Uv k j ρ σ cs ds):vA k j ρ σ (.cells cs) (.cells ds)
 | map {es:List (Value×AV×Nat)} {cl:Nat} (h:∀e∈es,plain e.2.1=true):vA k j ρ σ (.map es cl) (.map es cl)
def Uv.pl{k j:Nat}{ρ σ:Nat->Nat}:∀{l:List AV},BN l=true->Uv k j ρ σ l l
 | [],_=>.nil
 | a::l,h=>by
   simp only[BN,Bool.and_eq_true] at h;exact .cons (.pl h.1) (Uv.pl h.2)
section
variable {c c':Cx} {w w':World} {k j:Nat} {ρ σ:Nat->Nat}
structure Dn(k j:Nat)(ρ σ:Nat->Nat)(c:Cx)(w:World)(c0:Cx)(w0:World):Prop where
 fU:∀g i v,PJ c w g i v->PJ c0 w0 g i v
 Dv:∀i g,i < k->c.Dv[ρ i]?=some (some g)->c0.Dv[i]?=some (some g)
 rows:∀r,r < j->∃x,c.rows[σ r]?=some x/\c0.rows[r]?=some x
structure Up(k j:Nat)(ρ σ:Nat->Nat)(c0:Cx)(w0:World)(c:Cx)(w:World):Prop where
 fU:∀g i v,PJ c0 w0 g i v->PJ c w g i v
 Dv:∀i g,i < k->c0.Dv[i]?=some (some g)->c.Dv[ρ i]?=some (some g)
 rows:∀r,r < j->∃x,c.rows[σ r]?=some x/\c0.rows[r]?=some x
mutual
def Rn.down(d:Dn k j ρ σ c w c' w'):∀{a b:AV} {v:Value},Rn k j ρ σ a b->Rp c w b v->Rp c' w' a v:=by
 intro a b v hn h;cases hn with
 | pl hp=>exact h.plain d.fU hp
 | ptr hi=>cases h with | ptr h1=>exact .ptr (d.Dv _ _ hi h1)
 | mp hi=>cases h with | mp h1=>exact .mp (d.Dv _ _ hi h1)
 | msl hi=>cases h with | msl hn h1=>exact .msl hn (d.Dv _ _ hi h1)
 | @row r sz n cs hr hp =>
   obtain⟨x,hx,hx0⟩:=d.rows r hr;have hl:=(List.getElem?_eq_some_iff.1 hx0).1;cases h with
   | sl0 h0=>exact .sl0 ⟨h0.1,hl⟩
   | M9 hn hc ho =>
     refine .M9 hn (hc.plain d.fU hp) ⟨ho.1,ho.2.1,hl,λe=>ho.2.2.2.1 ?_,λg' n' cap' PM e=>ho.2.2.2.2 g' n' cap' PM ?_⟩;rw[hx,<- hx0];exact e;rw[hx,<- hx0];exact e
 | agg h1=>cases h with | agg h2=>exact .agg (Uv.down d h1 h2)
 | CZ h1=>cases h with | CZ h2=>exact .CZ (Uv.down d h1 h2)
 | fn h1 h2=>cases h with | fn h3 h4=>exact .fn (Uv.down d h1 h3) (Uv.down d h2 h4)
def Uv.down(d:Dn k j ρ σ c w c' w'):∀{a b:List AV} {v:List Value},Uv k j ρ σ a b->CU c w b v->CU c' w' a v:=by
 intro a b v hn h;cases hn with
 | nil=>cases h;exact .nil
 | cons h1 t=>cases h with | cons h2 t2=>exact .cons (Rn.down d h1 h2) (Uv.down d t t2)
end
mutual
def Rn.up(d:Up k j ρ σ c w c' w'):∀{a b:AV} {v:Value},Rn k j ρ σ a b->Rp c w a v->Rp c' w' b v:=by
 intro a b v hn h;cases hn with
 | pl hp=>exact h.plain d.fU hp
 | ptr hi=>cases h with | ptr h1=>exact .ptr (d.Dv _ _ hi h1)
 | mp hi=>cases h with | mp h1=>exact .mp (d.Dv _ _ hi h1)
 | msl hi=>cases h with | msl hn h1=>exact .msl hn (d.Dv _ _ hi h1)
 | @row r sz n cs hr hp =>
   obtain⟨x,hx,hx0⟩:=d.rows r hr;have hl:=(List.getElem?_eq_some_iff.1 hx).1;cases h with
   | sl0 h0=>exact .sl0 ⟨h0.1,hl⟩
   | M9 hn hc ho =>
     refine .M9 hn (hc.plain d.fU hp) ⟨ho.1,ho.2.1,hl,λe=>ho.2.2.2.1 ?_,λg' n' cap' PM e=>ho.2.2.2.2 g' n' cap' PM ?_⟩;rw[hx0,<- hx];exact e;rw[hx0,<- hx];exact e
 | agg h1=>cases h with | agg h2=>exact .agg (Uv.up d h1 h2)
 | CZ h1=>cases h with | CZ h2=>exact .CZ (Uv.up d h1 h2)
 | fn h1 h2=>cases h with | fn h3 h4=>exact .fn (Uv.up d h1 h3) (Uv.up d h2 h4)
def Uv.up(d:Up k j ρ σ c w c' w'):∀{a b:List AV} {v:List Value},Uv k j ρ σ a b->CU c w a v->CU c' w' b v:=by
 intro a b v hn h;cases hn with
 | nil=>cases h;exact .nil
 | cons h1 t=>cases h with | cons h2 t2=>exact .cons (Rn.up d h1 h2) (Uv.up d t t2)
end
def KQ.plain(hv:∀g i v,PJ c w g i v->PJ c' w' g i v):∀{es:List (Value×AV×Nat)} {fs:List MapEntry},(∀e∈es,AI.plain e.2.1=true)->KQ c w es fs->KQ c' w' es fs:=by
 intro es
 induction es with
 | nil=>intro fs _ h;cases h;exact .nil
 | cons e es ih =>
   intro fs hp h;cases h with | cons h1 t=>exact .cons (h1.plain hv (hp _ List.mem_cons_self)) (ih (λx hx=>hp x (List.mem_cons_of_mem _ hx)) t)
def vA.down(d:Dn k j ρ σ c w c' w'){a b:Bl}{o:Obj}(hn:vA k j ρ σ a b)(h:FE c w b o):FE c' w' a o:=by
 cases hn with
 | cells h1=>cases h with | I3 ext h2=>exact .I3 ext (Uv.down d h1 h2)
 | map hp=>cases h with | map h2=>exact .map (h2.plain d.fU hp)
def vA.up(d:Up k j ρ σ c w c' w'){a b:Bl}{o:Obj}(hn:vA k j ρ σ a b)(h:FE c w a o):FE c' w' b o:=by
 cases hn with
 | cells h1=>cases h with | I3 ext h2=>exact .I3 ext (Uv.up d h1 h2)
 | map hp=>cases h with | map h2=>exact .map (h2.plain d.fU hp)
end
structure Upd(k j:Nat)(ρ σ:Nat->Nat)(h2:List (Nat×Bl))(F2:List (Nat×Nat))(s s2:AS):Prop where
 nx:s2.nx=s.nx
 nr:s2.nr=s.nr
 desc:∀n,Kt s.h n->Kt s2.h n
 get:∀id b,s2.get id=some b->(∃i b0,i < k/\id=ρ i/\look i h2=some b0/\vA k j ρ σ b0 b)\/((∀i,i < k->id≠ρ i)/\s.get id=some b)
 tok:∀q n,Fo q s2.F=some n->(∃r,r < j/\q=σ r/\Fo r F2=some n)\/((∀r,r < j->q≠σ r)/\Fo q s.F=some n)
def RnR(k j:Nat)(ρ σ:Nat->Nat):CR->CR->Prop
 | .ret v,.ret v'=>Rn k j ρ σ v v'
 | .pan v,.pan v'=>Rn k j ρ σ v v'
 | _,_=>False
def avX{P:Program}{G:Bc}(hG:∀g cs,G g=some cs->BN cs=true){f:FuncId}{args XY:List AV}{r r':CR}{hm h2:List (Nat×Bl)}{k j:Nat}{Fm F2:List (Nat×Nat)}(h:Sound P G (.call f args ⟨hm,k,Fm,j⟩ r ⟨h2,k,F2,j⟩))(hd:Kt hm k)
   (ρ σ:Nat->Nat) (aKL:∀i i',i < k->i' < k->ρ i=ρ i'->i=i') (atC:∀i i',i < j->i' < j->σ i=σ i'->i=i') (IB:Uv k j ρ σ args XY)
   {s s2:AS} (dS:∀i b,i < k->look i hm=some b->∃b',s.get (ρ i)=some b'/\vA k j ρ σ b b')
   (TN:∀cx w vs,St G cx w s->CU cx w XY vs->∀i,i < k->∃g,cx.Dv[ρ i]?=some (some g))
   (aDA:∀q n,q < j->Fo q Fm=some n->Fo (σ q) s.F=some n) (aCZ:∀q,q < j->∃n,Fo q Fm=some n) (hFm:∀q n,Fo q Fm=some n->q < j)
   (hr:RnR k j ρ σ r r')
   (hu:Upd k j ρ σ h2 F2 s s2):Sound P G (.call f XY s r' s2):=by
 intro cx w vs hs ha;have hph:=TN cx w vs hs ha
 have hg:∀i:Nat,∃g,i < k->cx.Dv[ρ i]?=some (some g):=λi=>by
   by_cases hi:i < k;obtain⟨g,hg⟩:=hph i hi;exact⟨g,λ_=>hg⟩;exact⟨0,λh=>absurd h hi⟩
 obtain⟨gs,hgs⟩:=Classical.axiomOfChoice hg
 have hrw:∀q:Nat,∃x,q < j->cx.rows[σ q]?=some x:=λq=>by
   by_cases hq:q < j;obtain⟨n,hn⟩:=aCZ q hq;rcases hs.Ko _ _ (aDA q n hq hn) with ⟨h1,_⟩ | ⟨g,cap,sz,h1⟩
   exact⟨_,λ_=>h1⟩;exact⟨_,λ_=>h1⟩;exact⟨.gone,λh=>absurd h hq⟩
 obtain⟨rw,hrw⟩:=Classical.axiomOfChoice hrw;have oO:∀i,i < k->some (gs i)∈cx.Dv:=λi hi=>List.mem_of_getElem? (hgs i hi);have hgi:∀i i',i < k->i' < k->gs i=gs i'->i=i':=λi i' hi Nt e=>aKL i i' hi Nt (hs.nodup _ _ _ (hgs i hi) (by rw[e];exact hgs i' Nt));let K:Nat->Prop:=λq=>(∃i,i < k/\q=gs i)\/∃r n cap sz,r < j/\cx.rows[σ r]?=some (.RS q n cap sz);let c0:Cx:=⟨0,(List.range k).map λi=>some (gs i),(List.range j).map rw,λq i=>¬K q/\cx.yA q i⟩
 have Ww:∀(i g:Nat),c0.Dv[i]?=some (some g)↔i < k/\g=gs i:=by
   intro i g;show((List.range k).map λi=>some (gs i))[i]?=some (some g)↔_;rw[List.getElem?_map];by_cases hi:i < k;rw[List.getElem?_range hi];simp[hi,eq_comm];rw[List.getElem?_eq_none (by simp;omega)];simp[hi]
 have sH:∀g,some g∈c0.Dv->∃i,i < k/\g=gs i:=by
   intro g Yy;obtain⟨i,hi,e⟩:=List.mem_map.1 Yy;exact⟨i,List.mem_range.1 hi,(Option.some.inj e).symm⟩
 have aK:∀(q:Nat) x,c0.rows[q]?=some x->q < j/\cx.rows[σ q]?=some x:=by
   intro q x hx;have hx:((List.range j).map rw)[q]?=some x:=hx;have hl:=(List.getElem?_eq_some_iff.1 hx).1;simp at hl;rw[List.getElem?_map,List.getElem?_range hl] at hx;simp at hx;subst hx;exact⟨hl,hrw q hl⟩
 have oR:∀q,q < j->c0.rows[q]?=some (rw q):=by
   intro q hq;show((List.range j).map rw)[q]?=some (rw q);rw[List.getElem?_map,List.getElem?_range hq];rfl
 have adQ:c0.rows.length=j:=by show((List.range j).map rw).length=j;simp
 have Nu:∀g i x,PJ cx w g i x->PJ c0 w g i x:=by
   intro g i x hx;refine⟨hx.1,λKj=>?_,hx.2.2⟩;rcases Kj with Kj | ⟨r,n,cap,sz,hr,h1,h2⟩ | Kj
   obtain⟨i',Nt,rfl⟩:=sH g Kj;exact hx.2.1 (.inl (oO i' Nt));exact hx.2.1 (.inr (.inl ⟨σ r,n,cap,sz,(aK _ _ hr).2,h1,h2⟩));exact hx.2.1 Kj.2
 have hdn:Dn k j ρ σ cx w c0 w:=⟨Nu,λi g hi Yy=>by
   rw[Ww];rw[hgs i hi] at Yy;cases Yy;exact⟨hi,rfl⟩,λq hq=>⟨rw q,hrw q hq,oR q hq⟩⟩
 have Gr:St G c0 w ⟨hm,k,Fm,j⟩:=by
   refine⟨by simp[c0],hd,λi i' g h1 h2=>?_,λg _=>Nat.zero_le _,λid g b h1 h2=>?_,adQ.symm,λq g n cap sz hq=>?_,λq n hq=>?_,λg Yy=>?_,(λq i hb=>hs.fL hb.2),λq q' g n cap sz n' cap' PM h1 h2=>?_,(λg cs Yy=>Bk.plain Nu (hG g cs Yy) (hs.Pm g cs Yy)),Nat.zero_le _⟩;obtain⟨hi,e1⟩:=(Ww i g).1 h1;obtain⟨Nt,e2⟩:=(Ww i' g).1 h2;exact hgi i i' hi Nt (e1.symm.trans e2);obtain⟨hi,rfl⟩:=(Ww id g).1 h1;obtain⟨b',WU,hn⟩:=dS id b hi h2;obtain⟨o,ho,hb⟩:=hs.box (ρ id) (gs id) _ (hgs id hi) WU;exact⟨o,ho,hn.down hdn hb⟩;obtain⟨hq1,ZH⟩:=aK _ _ hq;obtain⟨_,_,a3,a4,a5⟩:=hs.row _ _ _ _ _ ZH;refine⟨λi hb=>hb.1 (.inr ⟨q,n,cap,sz,hq1,ZH⟩),Nat.zero_le _,λhm'=>?_,a4,a5⟩;obtain⟨i,hi,rfl⟩:=sH g hm';exact a3 (oO i hi);have hlt:=hFm q n hq;have:=hs.Ko _ _ (aDA q n hlt hq);rw[hrw q hlt] at this;rw[oR q hlt];exact this;obtain⟨i,hi,rfl⟩:=sH g Yy;exact hs.Q3 (oO i hi);obtain⟨a1,a2⟩:=aK _ _ h1;obtain⟨b1,b2⟩:=aK _ _ h2;exact atC _ _ a1 b1 (hs.JU _ _ _ _ _ _ _ _ _ a2 b2)
 refine(h c0 w vs Gr (IB.down hdn ha)).mono ?_;rintro e w' ⟨c',hx,Po,adI⟩
 have sI:c'.Dv=c0.Dv:=by
   obtain⟨t,ht⟩:=hx.Dv;have h1:c'.Dv.length=k:=Po.len.symm;have h2:c0.Dv.length=k:=by simp[c0]
   rw[<- ht,List.length_append,h2] at h1;have:t=[]:=List.eq_nil_of_length_eq_zero (by omega);rw[<- ht,this,List.append_nil]
 have awS:c'.rows.length=j:=Po.JY.symm;have adR:∀q,q < j->∃y,c'.rows[q]?=some y:=λq hq=>⟨_,List.getElem?_eq_getElem (by rw[awS];exact hq)⟩
 have hle:∀q y,q < j->c'.rows[q]?=some y->Ld (rw q) y:=by
   intro q y hq hy;obtain⟨x,h1,h2⟩:=hx.rows q y (by rw[adQ];exact hq) hy;rw[oR q hq] at h1;cases h1;exact h2
 let kT:List Rw:=(List.range cx.rows.length).map λq=>open Classical in if hq:∃r,r < j/\σ r=q then c'.rows.getD (Classical.choose hq) .gone else cx.rows.getD q .gone
 have adS:kT.length=cx.rows.length:=by simp[kT]
 have ZS:∀r,r < j->kT[σ r]?=c'.rows[r]?:=by
   intro r hr;have hl:=(List.getElem?_eq_some_iff.1 (hrw r hr)).1;show((List.range cx.rows.length).map _)[σ r]?=_;rw[List.getElem?_map,List.getElem?_range hl];simp only[Option.map_some];have hq:∃r',r' < j/\σ r'=σ r:=⟨r,hr,rfl⟩;rw[dif_pos hq];have hc:=Classical.choose_spec hq;have:Classical.choose hq=r:=atC _ _ hc.1 hr hc.2;rw[this];obtain⟨y,hy⟩:=adR r hr;rw[List.getD_eq_getElem?_getD,hy];rfl
 have dX:∀q,(∀r,r < j->q≠σ r)->kT[q]?=cx.rows[q]?:=by
   intro q hq;by_cases hl:q < cx.rows.length;show((List.range cx.rows.length).map _)[q]?=_;rw[List.getElem?_map,List.getElem?_range hl];simp only[Option.map_some];rw[dif_neg (by rintro⟨r,h1,h2⟩;exact hq r h1 h2.symm),List.getD_eq_getElem?_getD,List.getElem?_eq_getElem hl];rfl;rw[List.getElem?_eq_none (by omega),List.getElem?_eq_none (by omega)]
 have To:∀q:Nat,(∃r,r < j/\q=σ r)\/∀r,r < j->q≠σ r:=λq=>by
   by_cases hq:∃r,r < j/\q=σ r;exact .inl hq;exact .inr λr h1 h2=>hq ⟨r,h1,h2⟩
 have TM:∀r g n cap sz,r < j->c'.rows[r]?=some (.RS g n cap sz)->(∃r0 n0 R5 lM,r0 < j/\cx.rows[σ r0]?=some (.RS g n0 R5 lM))\/w.heap.size<=g:=by
   intro r g n cap sz hr hy;rcases hx.kS _ _ _ _ _ hy with ⟨r0,n0,R5,lM,h1⟩ | h1
   obtain⟨h2,h3⟩:=aK _ _ h1;exact .inl ⟨r0,n0,R5,lM,h2,h3⟩;exact .inr h1
 have ZQ:=hx.below
 have oL:SF w w' K:=⟨ZQ.os,ZQ.tape,ZQ.output,ZQ.size,λq hq hne=>hx.UU q hq (λhm'=>hne (.inl (sH q hm'))) (λr n cap sz hr=>hne (by
   obtain⟨h1,h2⟩:=aK _ _ hr;exact .inr ⟨r,n,cap,sz,h1,h2⟩))⟩
 have hKb:∀q,K q->cx.base<=q:=by
   rintro q (⟨i,hi,rfl⟩ | ⟨r,n,cap,sz,hr,h1⟩);exact hs.low _ (oO i hi);exact(hs.row _ _ _ _ _ h1).2.1
 let c1:Cx:=⟨cx.base,cx.Dv,kT,cx.bad⟩
 have atE:∀g i x,PJ c' w' g i x->PJ c1 w' g i x:=by
   intro g i x hv;refine⟨hv.1,λKj=>hv.2.1 ?_,hv.2.2⟩;have Ns:¬K g->cx.yA g i->c'.yA g i:=λh1 h2=>.inr (.inr (by rw[hx.bad];exact⟨h1,h2⟩));rcases Kj with Kj | ⟨q,n,cap,sz,hq,h1,h2⟩ | Kj
   by_cases hK:K g;rcases hK with ⟨i',Nt,rfl⟩ | ⟨r,n,cap,sz,hr,h1⟩
   refine .inl ?_;rw[sI];exact List.mem_of_getElem? ((Ww i' (gs i')).2 ⟨Nt,rfl⟩);exact absurd Kj (hs.row _ _ _ _ _ h1).2.2.1;exact Ns hK (.inl Kj);rcases To q with ⟨r,hr,rfl⟩ | mZ
   simp only[c1] at hq;rw[ZS r hr] at hq;exact .inr (.inl ⟨r,n,cap,sz,hq,h1,h2⟩);simp only[c1] at hq;rw[dX q mZ] at hq;refine Ns ?_ (.inr (.inl ⟨q,n,cap,sz,hq,h1,h2⟩));rintro(⟨i',Nt,rfl⟩ | ⟨r,n',cap',PM,hr,h3⟩);exact(hs.row _ _ _ _ _ hq).2.2.1 (oO i' Nt);exact mZ r hr (hs.JU _ _ _ _ _ _ _ _ _ hq h3);by_cases hK:K g;rcases hK with ⟨i',Nt,rfl⟩ | ⟨r,n,cap,sz,hr,h1⟩
   refine .inl ?_;rw[sI];exact List.mem_of_getElem? ((Ww i' (gs i')).2 ⟨Nt,rfl⟩);exact absurd Kj ((hs.row _ _ _ _ _ h1).1 i);exact Ns hK (.inr (.inr Kj))
 have ext:Ext cx w c1 w':=by
   refine⟨List.prefix_refl _,by simp[c1,adS],λq y hq hy=>?_,λg i x hv=>atE g i x (hx.fU g i x (Nu g i x hv)),oL.below hs.R2 hKb,rfl,rfl,λ_ h=>.inl h,λq g n cap sz hq=>?_,λq hq hp hr=>oL.block q hq ?_⟩;rcases To q with ⟨r,hr,rfl⟩ | mZ
   simp only[c1] at hy;rw[ZS r hr] at hy;exact⟨rw r,hrw r hr,hle r y hr hy⟩;simp only[c1] at hy;rw[dX q mZ] at hy;exact⟨y,hy,Ld.refl y⟩;rcases To q with ⟨r,hr,rfl⟩ | mZ
   simp only[c1] at hq;rw[ZS r hr] at hq;rcases TM _ _ _ _ _ hr hq with ⟨r0,n0,R5,lM,_,h1⟩ | h1
   exact .inl ⟨_,_,_,_,h1⟩;exact .inr h1;simp only[c1] at hq;rw[dX q mZ] at hq;exact .inl ⟨_,_,_,_,hq⟩;rintro(⟨i',Nt,rfl⟩ | ⟨r,n',cap',PM,ZI,h3⟩);exact hp (oO i' Nt);exact hr _ _ _ _ h3
 have hup:Up k j ρ σ c' w' c1 w':=⟨atE,λi g hi Yy=>by
   rw[sI,Ww] at Yy;obtain⟨_,rfl⟩:=Yy;exact hgs i hi,λq hq=>by
   obtain⟨y,hy⟩:=adR q hq;exact⟨y,by simp only[c1];rw[ZS q hq];exact hy,hy⟩⟩
 have st1:St G c1 w' s2:=by
   refine⟨by rw[hu.nx,hs.len],by rw[hu.nx];exact hu.desc _ hs.desc,hs.nodup,hs.low,λid g b h1 h2=>?_,by rw[hu.nr,hs.JY];exact adS.symm,λq g n cap sz hq=>?_,λq n hq=>?_,λg Yy=>Nat.lt_of_lt_of_le (hs.ON g Yy) oL.size,λg i hb=>Nat.lt_of_lt_of_le (hs.OH g i hb) oL.size,λq q' g n cap sz n' cap' PM h1 h2=>?_,λg cs Yy=>(hs.Pm g cs Yy).mono ext,Nat.le_trans hs.R2 oL.size⟩;rcases hu.get id b h2 with ⟨i,b0,hi,rfl,hb0,hn⟩ | ⟨hne,h3⟩
   obtain⟨o,ho,hb⟩:=Po.box i (gs i) b0 (by rw[sI];exact(Ww i (gs i)).2 ⟨hi,rfl⟩) hb0;have h1:cx.Dv[ρ i]?=some (some g):=h1;rw[hgs i hi] at h1;cases h1;exact⟨o,ho,hn.up hup hb⟩;obtain⟨o,ho,hb⟩:=hs.box id g b h1 h3;refine⟨o,?_,hb.mono ext⟩;rw[oL.block g (Array.getElem?_eq_some_iff.1 ho).1 ?_];exact ho;rintro(⟨i',Nt,rfl⟩ | ⟨r,n',cap',PM,ZI,h4⟩);exact hne i' Nt (hs.nodup _ _ _ h1 (hgs i' Nt));exact(hs.row _ _ _ _ _ h4).2.2.1 (List.mem_of_getElem? h1);simp only[c1] at hq ⊢;rcases To q with ⟨r,ZI,rfl⟩ | mZ
   rw[ZS r ZI] at hq;obtain⟨a1,a2,a3,a4,a5⟩:=Po.row _ _ _ _ _ hq;rcases TM _ _ _ _ _ ZI hq with ⟨r0,n0,R5,lM,_,h4⟩ | h4
   obtain⟨b1,b2,b3,_⟩:=hs.row _ _ _ _ _ h4;exact⟨b1,b2,b3,a4,a5⟩;refine⟨λi hb=>?_,Nat.le_trans hs.R2 h4,λhm'=>?_,a4,a5⟩;have:=hs.OH _ _ hb;omega;have:=hs.Q3 hm';omega;rw[dX q mZ] at hq;obtain⟨a1,a2,a3,a4,vs',T,a5,a6⟩:=hs.row _ _ _ _ _ hq;refine⟨a1,a2,a3,a4,vs',T,?_,a6⟩;rw[oL.block g (Array.getElem?_eq_some_iff.1 a5).1 ?_];exact a5;rintro(⟨i',Nt,rfl⟩ | ⟨r,n',cap',PM,ZI,h4⟩);exact a3 (oO i' Nt);exact mZ r ZI (hs.JU _ _ _ _ _ _ _ _ _ hq h4);simp only[c1];rcases hu.tok q n hq with ⟨r,ZI,rfl,h3⟩ | ⟨mZ,h3⟩
   rw[ZS r ZI];exact Po.Ko r n h3;rw[dX q mZ];exact hs.Ko q n h3;simp only[c1] at h1 h2
   have key:∀r q,r < j->(∀r',r' < j->q≠σ r')->∀n cap sz n' cap' PM,c'.rows[r]?=some (.RS g n cap sz)->cx.rows[q]?=some (.RS g n' cap' PM)->False:=by
     intro r q ZI mZ n cap sz n' cap' PM e1 e2;rcases TM _ _ _ _ _ ZI e1 with ⟨r0,n0,R5,lM,sK,h4⟩ | h4
     exact mZ r0 sK (hs.JU _ _ _ _ _ _ _ _ _ e2 h4);have:=hs.Q6 e2;omega
   rcases To q with ⟨r,ZI,rfl⟩ | hq1<;>rcases To q' with ⟨r2,hr2,rfl⟩ | ZH
   rw[ZS r ZI] at h1;rw[ZS r2 hr2] at h2;rw[Po.JU _ _ _ _ _ _ _ _ _ h1 h2];rw[ZS r ZI] at h1;rw[dX q' ZH] at h2;exact(key r q' ZI ZH _ _ _ _ _ _ h1 h2).elim;rw[dX q hq1] at h1;rw[ZS r2 hr2] at h2;exact(key r2 q hr2 hq1 _ _ _ _ _ _ h2 h1).elim;rw[dX q hq1] at h1;rw[dX q' ZH] at h2;exact hs.JU _ _ _ _ _ _ _ _ _ h1 h2
 refine⟨c1,ext,st1,?_⟩;cases r with
 | ret v =>
   cases r' with
   | ret v' =>
     obtain⟨u,rfl,hu'⟩:=adI;exact⟨u,rfl,Rn.up hup hr hu'⟩
   | pan v'=>exact hr.elim
 | pan v =>
   cases r' with
   | ret v'=>exact hr.elim
   | pan v' =>
     obtain⟨u,rfl,hu'⟩:=adI;exact⟨u,rfl,Rn.up hup hr hu'⟩
end AI
namespace AI
open Go Go.RowKit
def U2:List Bl->Nat->List (Nat×Bl)->List (Nat×Bl)
 | [],_,acc=>acc
 | b::l,n,acc=>U2 l (n+1) ((n,b)::acc)
def qN:List Nat->Nat->List (Nat×Nat)
 | [],_=>[]
 | k::l,n=>(n,k)::qN l (n+1)
def pD{M:List Bl}:∀{n:Nat} {acc:List (Nat×Bl)} {i:Nat} {b:Bl},Kt acc n->look i (U2 M n acc)=some b->(n<=i/\M[i - n]?=some b)\/look i acc=some b:=by
 induction M with
 | nil=>intro n acc i b _ h;exact .inr h
 | cons x M ih =>
   intro n acc i b hd h;rcases ih (n:=n+1) (acc:=(n,x)::acc) ⟨Nat.lt_succ_self n,hd⟩ h with ⟨h1,h2⟩ | h1
   refine .inl ⟨by omega,?_⟩;rw[show i - n=(i - (n+1))+1 by omega];exact h2;simp only[look] at h1;split at h1;rename_i hb;have:=beq_true hb;subst this;cases h1;exact .inl ⟨Nat.le_refl _,by simp⟩;exact .inr h1
def nR{M:List Bl}:∀{n:Nat} {acc:List (Nat×Bl)},Kt acc n->Kt (U2 M n acc) (n+M.length):=by
 induction M with
 | nil=>intro n acc h;exact h
 | cons x M ih =>
   intro n acc h;have:=ih (n:=n+1) (acc:=(n,x)::acc) ⟨Nat.lt_succ_self n,h⟩;rw[List.length_cons,show n+(M.length+1)=n+1+M.length by omega];exact this
def VQ{T:List Nat}:∀{n r k:Nat},Fo r (qN T n)=some k->n<=r/\T[r - n]?=some k:=by
 induction T with
 | nil=>intro n r k h;cases h
 | cons x T ih =>
   intro n r k h;simp only[qN,Fo] at h;split at h;rename_i hb;have:=beq_true hb;subst this;cases h;exact⟨Nat.le_refl _,by simp⟩;obtain⟨h1,h2⟩:=ih h;refine⟨by omega,?_⟩;rw[show r - n=(r - (n+1))+1 by omega];exact h2
def bO{T:List Nat}:∀{n r:Nat},n<=r->r - n < T.length->∃k,Fo r (qN T n)=some k:=by
 induction T with
 | nil=>intro n r _ h;simp at h
 | cons x T ih =>
   intro n r h1 h2;simp only[qN,Fo];split;exact⟨_,rfl⟩;rename_i hb;have:=beq_false hb;exact ih (by omega) (by simp at h2;omega)
inductive XM(k j:Nat)(ρ σ:Nat->Nat):List Bl->List (Nat×Bl)->Prop where
 | nil:XM k j ρ σ [] []
 | cons {b b':Bl} {i:Nat} {l:List Bl} {m:List (Nat×Bl)} (h:vA k j ρ σ b b') (t:XM k j ρ σ l m):XM k j ρ σ (b::l) ((i,b')::m)
def XM.len{k j:Nat}{ρ σ:Nat->Nat}{l:List Bl}{m:List (Nat×Bl)}(h:XM k j ρ σ l m):l.length=m.length:=by
 induction h with
 | nil=>rfl
 | cons _ _ ih=>simp[ih]
def XM.get{k j:Nat}{ρ σ:Nat->Nat}{l:List Bl}{m:List (Nat×Bl)}(h:XM k j ρ σ l m):∀{i:Nat} {b:Bl},l[i]?=some b->∃e,m[i]?=some e/\vA k j ρ σ b e.2:=by
 induction h with
 | nil=>intro i b hb;simp at hb
 | cons h _ ih =>
   intro i b hb;cases i with
   | zero=>simp at hb;subst hb;exact⟨_,rfl,h⟩
   | succ i=>exact ih (by simpa using hb)
def XM.aJT{k j:Nat}{ρ σ:Nat->Nat}{l:List Bl}{m:List (Nat×Bl)}(h:XM k j ρ σ l m):∀{i:Nat} {e:Nat×Bl},m[i]?=some e->∃b,l[i]?=some b/\vA k j ρ σ b e.2:=by
 induction h with
 | nil=>intro i b hb;simp at hb
 | cons h _ ih =>
   intro i b hb;cases i with
   | zero=>simp at hb;subst hb;exact⟨_,rfl,h⟩
   | succ i=>exact ih (by simpa using hb)
def lS:∀(l:List (Nat×Bl)) (s:AS) (id:Nat) (b:Bl),(s.V8 l).get id=some b->(∃e∈l,e.1=id/\e.2=b)\/((∀e∈l,e.1≠id)/\s.get id=some b)
 | [],s,id,b,h=>.inr ⟨(λe he=>by cases he),h⟩
 | e::l,s,id,b,h=>by
   rcases lS l (s.put e.1 e.2) id b h with ⟨x,hx,h1⟩ | ⟨h1,h2⟩
   exact .inl ⟨x,List.mem_cons_of_mem _ hx,h1⟩;rcases Zr h2 with ⟨h3,h4⟩ | ⟨h3,h4⟩
   exact .inl ⟨e,List.mem_cons_self,h3.symm,h4.symm⟩;refine .inr ⟨λx hx=>?_,h4⟩;rcases List.mem_cons.1 hx with rfl | hx
   exact λe=>h3 e.symm;exact h1 x hx
def bU:∀(l:List (Nat×Bl)) (s:AS),(s.V8 l).nx=s.nx/\(s.V8 l).nr=s.nr/\(s.V8 l).F=s.F/\∀n,Kt s.h n->Kt (s.V8 l).h n
 | [],s=>⟨rfl,rfl,rfl,λ_ h=>h⟩
 | e::l,s=>by
   obtain⟨h1,h2,h3,h4⟩:=bU l (s.put e.1 e.2);exact⟨h1,h2,h3,λn h=>h4 n (Zq h)⟩
def aG:∀(l:List (Nat×Nat)) (s:AS) (q n:Nat),Fo q (s.Tn l).F=some n->(∃e∈l,e.1=q/\e.2=n)\/((∀e∈l,e.1≠q)/\Fo q s.F=some n)
 | [],s,q,n,h=>.inr ⟨(λe he=>by cases he),h⟩
 | e::l,s,q,n,h=>by
   rcases aG l _ q n h with ⟨x,hx,h1⟩ | ⟨h1,h2⟩
   exact .inl ⟨x,List.mem_cons_of_mem _ hx,h1⟩;rcases bK h2 with ⟨h3,h4,_⟩ | ⟨h3,h4⟩
   exact .inl ⟨e,List.mem_cons_self,h3.symm,h4.symm⟩;refine .inr ⟨λx hx=>?_,h4⟩;rcases List.mem_cons.1 hx with rfl | hx
   exact λe=>h3 e.symm;exact h1 x hx
def Yq:∀(l:List (Nat×Nat)) (s:AS),(s.Tn l).nx=s.nx/\(s.Tn l).nr=s.nr/\(s.Tn l).h=s.h
 | [],s=>⟨rfl,rfl,rfl⟩
 | e::l,s=>Yq l _
def Yp:∀{l:List (Nat×Bl)} {s:AS},Yo s l=OF l->∀{i:Nat} {e:Nat×Bl},l[i]?=some e->s.get e.1=some e.2
 | [],s,_,i,e,he=>by simp at he
 | x::l,s,h,i,e,he=>by
   simp only[Yo,OF,List.cons.injEq] at h;cases i with
   | zero=>simp at he;subst he;exact h.1
   | succ i=>exact Yp h.2 (by simpa using he)
def iY:∀{l:List (Nat×Nat)} {F:List (Nat×Nat)},aE F l=O7 l->∀{i:Nat} {e:Nat×Nat},l[i]?=some e->Fo e.1 F=some e.2
 | [],s,_,i,e,he=>by simp at he
 | x::l,s,h,i,e,he=>by
   simp only[aE,O7,List.cons.injEq] at h;cases i with
   | zero=>simp at he;subst he;exact h.1
   | succ i=>exact iY h.2 (by simpa using he)
mutual
inductive Occ(id:Nat):AV->Prop where
 | ptr {off:Nat}:Occ id (.ptr id off)
 | mp:Occ id (.mp id)
 | msl {off n:Nat}:Occ id (.msl id off n)
 | agg {cs:List AV} (h:Ut id cs):Occ id (.agg cs)
 | fn1 {f:Fn} {a b:List AV} (h:Ut id a):Occ id (.fn f a b)
 | fn2 {f:Fn} {a b:List AV} (h:Ut id b):Occ id (.fn f a b)
inductive Ut(id:Nat):List AV->Prop where
 | here {a:AV} {l:List AV} (h:Occ id a):Ut id (a::l)
 | there {a:AV} {l:List AV} (h:Ut id l):Ut id (a::l)
end
mutual
def Occ.Dv{c:Cx}{w:World}{id:Nat}:∀{a:AV} {v:Value},Occ id a->Rp c w a v->∃g,c.Dv[id]?=some (some g):=by
 intro a v ho h;cases ho with
 | ptr=>cases h with | ptr h1=>exact⟨_,h1⟩
 | mp=>cases h with | mp h1=>exact⟨_,h1⟩
 | msl=>cases h with | msl hn h1=>exact⟨_,h1⟩
 | agg h1=>cases h with | agg h2=>exact Ut.Dv h1 h2
 | fn1 h1=>cases h with | fn h2 h3=>exact Ut.Dv h1 h2
 | fn2 h1=>cases h with | fn h2 h3=>exact Ut.Dv h1 h3
def Ut.Dv{c:Cx}{w:World}{id:Nat}:∀{a:List AV} {v:List Value},Ut id a->CU c w a v->∃g,c.Dv[id]?=some (some g):=by
 intro a v ho h;cases ho with
 | here h1=>cases h with | cons h2 _=>exact Occ.Dv h1 h2
 | there h1=>cases h with | cons _ h2=>exact Ut.Dv h1 h2
end
inductive Rch(args:List AV)(pre:List (Nat×Bl)):Nat->Prop where
 | arg {id:Nat} (h:Ut id args):Rch args pre id
 | box {i id p:Nat} {cs:List AV} (h:Rch args pre i) (hp:pre[p]?=some (i,.cells cs)) (ho:Ut id cs):Rch args pre id
def Rch.Dv{G:Bc}{args:List AV}{pre:List (Nat×Bl)}{s:AS}(hb:Yo s pre=OF pre){cx:Cx}{w:World}{vs:List Value}(hs:St G cx w s)(ha:CU cx w args vs){id:Nat}(h:Rch args pre id):∃g,cx.Dv[id]?=some (some g):=by
 induction h with
 | arg h=>exact h.Dv ha
 | box h hp ho ih =>
   obtain⟨g,hg⟩:=ih;obtain⟨o,_,hbo⟩:=hs.box _ g _ hg (Yp hb hp);cases hbo with
   | I3 ext hr=>exact ho.Dv hr
def Lt{β:Type}(l:List (Nat×β))(i:Nat):Nat:=match l[i]? with
 | some e=>e.1
 | none=>0
def Lu{β:Type}{l:List (Nat×β)}{i:Nat}{e:Nat×β}(h:l[i]?=some e):Lt l i=e.1:=by unfold Lt;rw[h]
def keys{β:Type}(l:List (Nat×β)):List Nat:=l.map (·.1)
def aN{β:Type}{l:List (Nat×β)}(h:(keys l).Nodup){i i':Nat}(hi:i < l.length)(Nt:i' < l.length)(e:Lt l i=Lt l i'):i=i':=by
 have h1:(keys l)[i]?=some (Lt l i):=by
   unfold keys;rw[List.getElem?_map,List.getElem?_eq_getElem hi,Lu (List.getElem?_eq_getElem hi)];rfl
 have h2:(keys l)[i']?=some (Lt l i'):=by
   unfold keys;rw[List.getElem?_map,List.getElem?_eq_getElem Nt,Lu (List.getElem?_eq_getElem Nt)];rfl
 rw[<- e] at h2;exact xA h h1 h2
def QP{β β':Type}{l:List (Nat×β)}{m:List (Nat×β')}(h:keys l=keys m)(i:Nat):Lt l i=Lt m i:=by
 have h1:=congrArg (λx=>x[i]?) h;unfold keys at h1;simp only[List.getElem?_map] at h1;unfold Lt;cases hl:l[i]?<;>cases hm:m[i]?<;>rw[hl,hm] at h1<;>simp at h1<;>simp[h1]
def Ht{P:Program}{G:Bc}(hG:∀g cs,G g=some cs->BN cs=true){f:FuncId}{args XY:List AV}{r r':CR}{M M2:List Bl}{T T2:List Nat}(pre Rc:List (Nat×Bl))(tp tu:List (Nat×Nat)){k j:Nat}
   (h:Sound P G (.call f args ⟨U2 M 0 [],k,qN T 0,j⟩ r ⟨U2 M2 0 [],k,qN T2 0,j⟩))
   (hk:M.length=k) (hj:T.length=j) (hj2:T2.length=j)
   (hku:keys Rc=keys pre) (hkt:keys tu=keys tp) (PY:(keys pre).Nodup) (PZ:(keys tp).Nodup)
   (htp:tp.map (·.2)=T) (htu:tu.map (·.2)=T2)
   (hb:XM k j (Lt pre) (Lt tp) M pre) (hb2:XM k j (Lt pre) (Lt tp) M2 Rc)
   (IB:Uv k j (Lt pre) (Lt tp) args XY)
   (hr:RnR k j (Lt pre) (Lt tp) r r')
   (aKR:∀e∈pre,Rch XY pre e.1):Cd.ok P G (.E7 f XY r' pre tp Rc tu):=by
 intro s hgb hgf;have hpl:pre.length=k:=by rw[<- hb.len,hk]
 have htl:tp.length=j:=by rw[<- hj,<- htp,List.length_map]
 have hul:Rc.length=k:=by
   have:=congrArg List.length hku;simp only[keys,List.length_map] at this;omega
 have aNX:tu.length=j:=by rw[<- hj2,<- htu,List.length_map]
 refine avX hG h (by have:=nR (M:=M) (n:=0) (acc:=[]) trivial;rw[Nat.zero_add,hk] at this;exact this) (Lt pre) (Lt tp) (λi i' hi Nt e=>aN PY (by omega) (by omega) e) (λi i' hi Nt e=>aN PZ (by omega) (by omega) e) IB (s:=s) (λi b hi hl=>?_) (λcx w vs hs ha i hi=>?_) (λq n hq hl=>?_) (λq hq=>?_) (λq n hl=>?_) hr ?_;rcases pD (acc:=[]) trivial hl with ⟨_,h1⟩ | h1
 rw[Nat.sub_zero] at h1;obtain⟨e,he,hn⟩:=hb.get h1;exact⟨e.2,by rw[Lu he];exact Yp hgb he,hn⟩;cases h1;have he:pre[i]?=some pre[i]:=List.getElem?_eq_getElem (by omega);rw[Lu he];exact(aKR _ (List.mem_of_getElem? he)).Dv hgb hs ha
 · obtain⟨_,h1⟩:=VQ hl
   rw[Nat.sub_zero,<- htp,List.getElem?_map] at h1;cases he:tp[q]? with
   | none=>rw[he] at h1;cases h1
   | some e =>
     rw[he] at h1;simp at h1;rw[Lu he,<- h1];exact iY hgf he
 exact bO (Nat.zero_le _) (by omega);obtain⟨_,h1⟩:=VQ hl;have:=(List.getElem?_eq_some_iff.1 h1).1;omega
 · obtain⟨a1,a2,a3,a4⟩:=bU Rc s
   obtain⟨b1,b2,b3⟩:=Yq tu (s.V8 Rc);refine⟨by rw[b1,a1],by rw[b2,a2],λn hd=>by rw[b3];exact a4 n hd,λid b hg=>?_,λq n hq=>?_⟩
   · have hg:(s.V8 Rc).get id=some b:=by
       unfold AS.get at hg ⊢;rw[b3] at hg;exact hg
     rcases lS Rc s id b hg with ⟨e,he,rfl,rfl⟩ | ⟨h1,h2⟩
     · obtain⟨i,hi⟩:=List.mem_iff_getElem?.1 he
       have hil:=(List.getElem?_eq_some_iff.1 hi).1;obtain⟨b0,hb0,hn⟩:=hb2.aJT hi;refine .inl ⟨i,b0,by omega,by rw[<- QP hku,Lu hi],?_,hn⟩
       have:∀(M:List Bl) (n:Nat) (acc:List (Nat×Bl)) (i:Nat) (b:Bl),M[i]?=some b->(∀e∈acc,e.1 < n)->look (n+i) (U2 M n acc)=some b:=by
         intro M
         induction M with
         | nil=>intro n acc i b h;simp at h
         | cons x M ih =>
           intro n acc i b h jC;cases i with
           | succ i =>
             have:=ih (n+1) ((n,x)::acc) i b (by simpa using h) (λe he=>by
               rcases List.mem_cons.1 he with rfl | he
               exact Nat.lt_succ_self _;have:=jC e he;omega)
             rw[show n+(i+1)=n+1+i by omega];exact this
           | zero =>
             simp at h;subst h;simp only[U2,Nat.add_zero]
             have aCX:∀(M:List Bl) (n':Nat) (acc:List (Nat×Bl)),n < n'->look n (U2 M n' acc)=look n acc:=by
               intro M
               induction M with
               | nil=>intro n' acc _;rfl
               | cons y M ih2 =>
                 intro n' acc hlt;simp only[U2];rw[ih2 (n'+1) _ (by omega)];simp only[look]
                 have:Nat.beq n' n=false:=by
                   cases hq:Nat.beq n' n with
                   | false=>rfl
                   | true=>have:=beq_true hq;omega
                 rw[this]
             rw[aCX M (n+1) _ (by omega)];simp only[look];rw[show Nat.beq n n=true from Nat.beq_refl n]
       have:=this M2 0 [] i b0 hb0 (λe he=>by cases he);rwa[Nat.zero_add] at this
     refine .inr ⟨λi hi e=>?_,h2⟩;have he:Rc[i]?=some Rc[i]:=List.getElem?_eq_getElem (by omega);refine h1 _ (List.mem_of_getElem? he) ?_;rw[e,<- QP hku,Lu he]
   rcases aG tu _ q n hq with ⟨e,he,rfl,rfl⟩ | ⟨h1,h2⟩
   obtain⟨i,hi⟩:=List.mem_iff_getElem?.1 he;have hil:=(List.getElem?_eq_some_iff.1 hi).1;refine .inl ⟨i,by omega,by rw[<- QP hkt,Lu hi],?_⟩;obtain⟨kk,hkk⟩:=bO (T:=T2) (n:=0) (r:=i) (Nat.zero_le _) (by omega);obtain⟨_,h3⟩:=VQ hkk;rw[Nat.sub_zero,<- htu,List.getElem?_map,hi] at h3;simp at h3;rw[hkk,h3];refine .inr ⟨λi hi e=>?_,by rw[<- a3];exact h2⟩;have he:tu[i]?=some tu[i]:=List.getElem?_eq_getElem (by omega);refine h1 _ (List.mem_of_getElem? he) ?_;rw[e,<- QP hkt,Lu he]
end AI
namespace AI
open Go Go.RowKit
section
variable {P:Program} {G:Bc}
def QM(G:Bc)(s0:AS)(r0:CR)(s2:AS):CR->AS->Prop:=λr s'=>match r0 with
 | .ret v=>∃a,r=.ret a/\Frg G s0 [a] s' [v] s2
 | .pan v=>∃a,r=.pan a/\Frg G s0 [a] s' [v] s2
def BW(hm:P.follows .mixedOrders=true){f:FuncId}{args:List AV}{s0 s2:AS}{r0:CR}(h:WC P G (XS P G) H0 f args s0 (QM G s0 r0 s2)):Sound P G (.call f args s0 r0 s2):=by
 obtain⟨r,s',hj,hq⟩:=h;have hS:=sound (TJ hm) hj;intro cx w vs hs IB;refine(hS cx w vs hs IB).mono ?_;rintro e w' ⟨c',hx,hs',adI⟩;cases r0 with
 | ret v =>
   obtain⟨a,rfl,hf⟩:=hq;obtain⟨u,rfl,hu⟩:=adI;obtain⟨c2,x2,Xx,f2⟩:=hf cx w c' w' [u] hx hs hs' (.cons hu .nil);cases f2 with
   | cons f3 _=>exact⟨c2,x2,Xx,u,rfl,f3⟩
 | pan v =>
   obtain⟨a,rfl,hf⟩:=hq;obtain⟨u,rfl,hu⟩:=adI;obtain⟨c2,x2,Xx,f2⟩:=hf cx w c' w' [u] hx hs hs' (.cons hu .nil);cases f2 with
   | cons f3 _=>exact⟨c2,x2,Xx,u,rfl,f3⟩
def RE(P:Program)(G:Bc)(fn:Func)(m:Nat)(s0:AS)(Q:AX->List AV->AS->Prop)(v:AV)(s2:AS):Prop:=∀a s',Frg G s0 [a] s' [v] s2->RV P fn m Q a s'
def Tz(G:Bc)(m:Nat)(s0:AS)(Q:AX->List AV->AS->Prop)(v:AV)(s2:AS):Prop:=∀a s',Frg G s0 [a] s' [v] s2->Uu m Q a s'
def RE.body{fn:Func}{m:Nat}{s0 s2:AS}{v:AV}:RE P G fn m s0 (UD P fn m (QM G s0 (.ret v) s2)) v s2:=λa s' hf=>.body ⟨a,rfl,hf⟩
def Tz.body{fn:Func}{m:Nat}{s0 s2:AS}{v:AV}:Tz G m s0 (UD P fn m (QM G s0 (.pan v) s2)) v s2:=λa s' hf=>.body ⟨a,rfl,hf⟩
def RE.outer{fn:Func}{m id:Nat}{ks:List KI}{s0 s2:AS}{Q:AX->List AV->AS->Prop}{v:AV}(h:RE P G fn m s0 Q v s2):RE P G fn m s0 (EM id (Ee P G ks Q)) v s2:=λa s' hf=>(h a s' hf).outer
def RE.Gb{fn:Func}{m:Nat}{L:Code}{s0 s1 s2:AS}{Q:AX->List AV->AS->Prop}{v:AV}(h:RE P G fn m s0 Q v s2):RE P G fn m s0 (Ua P G L s1 Q) v s2:=h
def Tz.outer{m id:Nat}{ks:List KI}{s0 s2:AS}{Q:AX->List AV->AS->Prop}{v:AV}(h:Tz G m s0 Q v s2):Tz G m s0 (EM id (Ee P G ks Q)) v s2:=λa s' hf=>(h a s' hf).outer
def Tz.Gb{m:Nat}{L:Code}{s0 s1 s2:AS}{Q:AX->List AV->AS->Prop}{v:AV}(h:Tz G m s0 Q v s2):Tz G m s0 (Ua P G L s1 Q) v s2:=h
def Af{f:FuncId}{args:List AV}{v:AV}{pre:List (Nat×Bl)}{tp:List (Nat×Nat)}{Rc:List (Nat×Bl)}{tu:List (Nat×Nat)}(h:Cd.ok P G (.E7 f args (.ret v) pre tp Rc tu)):PC P G :=
 ⟨.u v pre tp Rc tu,[.E7 f args (.ret v) pre tp Rc tu,.zM (OF pre) (OF pre) (O7 tp) (O7 tp)],⟨h,⟨rfl,rfl⟩,trivial⟩⟩
def anX{f:FuncId}{args Wo:List AV}{v:AV}{pre:List (Nat×Bl)}{tp:List (Nat×Nat)}{Rc:List (Nat×Bl)}{tu:List (Nat×Nat)}(w:Wn args Wo)(h:Cd.ok P G (.E7 f Wo (.ret v) pre tp Rc tu)):PC P G :=
 ⟨.u v pre tp Rc tu,[.E7 f args (.ret v) pre tp Rc tu,.zM (OF pre) (OF pre) (O7 tp) (O7 tp)],⟨λs h1 h2 cx wd vs hs ha=>h s h1 h2 cx wd vs hs (w.ok ha),⟨rfl,rfl⟩,trivial⟩⟩
def An{f:FuncId}{args:List AV}{v:AV}{pre:List (Nat×Bl)}{tp:List (Nat×Nat)}{Rc:List (Nat×Bl)}{tu:List (Nat×Nat)}(h:Cd.ok P G (.E7 f args (.pan v) pre tp Rc tu)):PC P G :=
 ⟨.q v pre tp Rc tu,[.E7 f args (.pan v) pre tp Rc tu,.zM (OF pre) (OF pre) (O7 tp) (O7 tp)],⟨h,⟨rfl,rfl⟩,trivial⟩⟩
def pz(c:Nat):PC P G:=⟨.z c,[],trivial⟩
def kJ:PC P G:=⟨.za,[],trivial⟩
end
end AI
namespace AI
open Go Go.RowKit
mutual
def Zo{n m n2 m2:Nat}(h1:n<=n2)(h2:m<=m2):∀{a:AV},under n m a=true->under n2 m2 a=true
 | .sc _,_=>rfl
 | .agg cs,h=>by simp only[under] at h ⊢;exact J2 h1 h2 h
 | .CZ cs,h=>by simp only[under] at h ⊢;exact J2 h1 h2 h
 | .sl o k cs,h=>by
   simp only[under,Bool.and_eq_true] at h ⊢;refine⟨?_,J2 h1 h2 h.2⟩;have h3:=h.1;cases o with
   | row r z=>simp only[decide_eq_true_eq] at h3 ⊢;omega
   | _=>rfl
 | .msl id _ _,h=>by simp only[under,decide_eq_true_eq] at h ⊢;omega
 | .el cs,h=>by simp only[under] at h ⊢;exact J2 h1 h2 h
 | .ptr id _,h=>by simp only[under,decide_eq_true_eq] at h ⊢;omega
 | .fn _ a b,h=>by simp only[under,Bool.and_eq_true] at h ⊢;exact⟨J2 h1 h2 h.1,J2 h1 h2 h.2⟩
 | .ifc _ v,h=>by simp only[under] at h ⊢;exact Zo h1 h2 h
 | .mp id,h=>by simp only[under,decide_eq_true_eq] at h ⊢;omega
 | .any,_=>rfl
 | .raw _ _ _,_=>rfl
def J2{n m n2 m2:Nat}(h1:n<=n2)(h2:m<=m2):∀{a:List AV},FD n m a=true->FD n2 m2 a=true
 | [],_=>rfl
 | a::l,h=>by simp only[FD,Bool.and_eq_true] at h ⊢;exact⟨Zo h1 h2 h.1,J2 h1 h2 h.2⟩
end
def Wn.z{l m:List AV}(t:Wn l m):Wn (.sl .full 0 []::l) (.sl .lost 0 []::m):=.s rfl t
def rS{P:Program}{G:Bc}{r:HR}{X:Prop}{x:Value}{fn:Func}{m:Nat}{l:List (PC P G)}(R:VB P G l (UD P fn m (λr _=>∃a,r=.ret a/\Fits 0 0 a (.sc x))) r X)(h:aoJ P fn r=some (nB l,.sc x)):X:=AA fn m R h .body .sc
abbrev JJ:=List Value×List AV
def ayL:List Value->Nat->Value
 | [],_=>undef
 | v::_,0=>v
 | _::l,k+1=>ayL l k
def aDU:List AV->Nat->AV
 | [],_=>.sc undef
 | v::_,0=>v
 | _::l,k+1=>aDU l k
def jn(j:JJ)(k:Nat):Value:=ayL j.1 k
def gn(j:JJ)(k:Nat):AV:=aDU j.2 k
def frm:Nat->Nat->List (Nat×AV)->List Nat->Nat->List Nat->Nat->JJ->List AV
 | 0,_,_,_,_,_,_,_=>[]
 | n+1,p,l,bs,kb,gs,kg,j=>(match hd1 p l with
   | some v=>v::frm n (p+1) (l.drop 1) bs kb gs kg j
   | none=>(match hd2 p bs with
     | true=>.sc (jn j kb)::frm n (p+1) l (bs.drop 1) (kb+1) gs kg j
     | false=>(match hd2 p gs with
       | true=>gn j kg::frm n (p+1) l bs kb (gs.drop 1) (kg+1) j
       | false=>.any::frm n (p+1) l bs kb gs kg j)))
where
 hd1 (p:Nat):List (Nat×AV)->Option AV
   | []=>none
   | e::_=>(match Nat.beq e.1 p with | true=>some e.2 | false=>none)
 hd2 (p:Nat):List Nat->Bool
   | []=>false
   | e::_=>Nat.beq e p
structure Mm(κ ν:Type) where
 es:List (κ×ν×Nat)
 cl:Nat
section
variable {κ ν:Type} [DecidableEq κ]
def L0(k:κ):List (κ×ν×Nat)->Nat->Option (Nat×ν)
 | [],_=>none
 | e::es,i=>if e.1=k then some (i,e.2.1) else L0 k es (i+1)
def Mm.get(m:Mm κ ν)(k:κ):Option ν:=(L0 k m.es 0).map (·.2)
def Mm.set(m:Mm κ ν)(k:κ)(v:ν):Mm κ ν:=match L0 k m.es 0 with
 | some (j,_)=>(match m.es[j]? with | some e=>⟨m.es.set j (k,v,e.2.2),m.cl⟩ | none=>m)
 | none=>⟨m.es++[(k,v,m.cl)],m.cl+1⟩
def Mm.nil:Mm κ ν:=⟨[],0⟩
def wY(k k2:κ)(v:ν)(b:Nat):∀(es:List (κ×ν×Nat)) (i:Nat),L0 k (es++[(k2,v,b)]) i=match L0 k es i with
   | some r=>some r
   | none=>if k2=k then some (i+es.length,v) else none:=by
 intro es
 induction es with
 | nil=>intro i;simp[L0]
 | cons e es ih =>
   intro i;simp only[List.cons_append,L0];by_cases he:e.1=k;simp[he];rw[if_neg he,if_neg he,ih (i+1)];cases L0 k es (i+1) with
   | some r=>rfl
   | none=>simp only[List.length_cons];rw[show i+1+es.length=i+(es.length+1) by omega]
def jR{k:κ}:∀{es:List (κ×ν×Nat)} {i j:Nat} {v:ν},L0 k es i=some (j,v)->∃m e,j=i+m/\es[m]?=some e/\e.1=k/\e.2.1=v:=by
 intro es
 induction es with
 | nil=>intro i j v h;cases h
 | cons e es ih =>
   intro i j v h;simp only[L0] at h;split at h;rename_i he;cases h;exact⟨0,e,rfl,rfl,he,rfl⟩;obtain⟨m,e',h1,h2,h3⟩:=ih h;exact⟨m+1,e',by omega,by simpa using h2,h3⟩
def wZ{k:κ}{v:ν}:∀{es:List (κ×ν×Nat)} {i m b:Nat} {v0:ν},L0 k es i=some (i+m,v0)->∀k',L0 k' (es.set m (k,v,b)) i=if k'=k then some (i+m,v) else L0 k' es i:=by
 intro es
 induction es with
 | nil=>intro i m b v0 h;cases h
 | cons e es ih =>
   intro i m b v0 h k';simp only[L0] at h;split at h;rename_i he;have hm:m=0:=by have h5:=congrArg (λo:Option (Nat×ν)=>o.map (·.1)) h;simp at h5;omega
   subst hm;simp only[List.set_cons_zero,L0,he];by_cases hk:k'=k;simp[hk];have hk2:¬k=k':=λe=>hk e.symm;simp[hk,hk2]
   · rename_i he
     obtain⟨m',_,hm,_⟩:=jR h;cases m with
     | zero=>omega
     | succ m =>
       simp only[List.set_cons_succ,L0];have:=ih (i:=i+1) (m:=m) (b:=b) (by rw[show i+1+m=i+(m+1) by omega];exact h) k';by_cases hk:e.1=k';rw[if_pos hk,if_pos hk];have:¬k'=k:=λe'=>he (hk.trans e');simp[this];rw[if_neg hk,if_neg hk,this,show i+1+m=i+(m+1) by omega]
def Mm.Xl(m:Mm κ ν)(k:κ)(v:ν)(k':κ):(m.set k v).get k'=if k'=k then some v else m.get k':=by
 unfold Mm.get Mm.set;cases hf:L0 k m.es 0 with
 | none =>
   simp only;rw[wY];by_cases hk:k'=k;subst hk;rw[hf];simp
   · cases Yv:L0 k' m.es 0 with
     | some r=>simp[hk]
     | none =>
       have hk2:¬k=k':=λe=>hk e.symm;simp[hk,hk2]
 | some r =>
   obtain⟨j,v0⟩:=r;obtain⟨q,e,h1,h2,h3,_⟩:=jR hf;have hj:j=q:=by omega
   subst hj;simp only[h2];rw[wZ (i:=0) (m:=j) (v0:=v0) (by rw[Nat.zero_add];exact hf)];by_cases hk:k'=k<;>simp[hk]
end
structure aNG{κ:Type}[DecidableEq κ](d:TypeDesc)(kv:κ->Value):Prop where
 pk:plainKey d=true
 same:∀a b:κ,Y8 d (kv a) (kv b)=some (decide (b=a))
end AI
namespace AI
open Go Go.RowKit
section
variable {P:Program} {G:Bc} {α:Type} {f:α->List AV} {C:List α->List AV} {k:Nat}
def xX{l:List α}{i:Nat}(y:α)(h:i < l.length):l.set i y=l.take i++y::l.drop (i+1):=by
 rw[List.set_eq_take_append_cons_drop,if_pos h]
def Rk.st(h:Rk f C k){e:TypeId}(hs:(P.info? e).map (·.size)=some k){l:List α}{i:Nat}{x:α}(hx:l[i]?=some x)(y:α){v:AV}(hv:cellsOf v=f y)(h1:(f y).all one=true):Cd.ok P G (.stB (.cells (C l)) e (0+i*k) v (.cells (C (l.set i y)))):=by
 intro s id hg;have hlt:=(List.getElem?_eq_some_iff.1 hx).1;have hle:i*k+k<=l.length*k:=by have:=Nat.mul_le_mul_right k hlt;rw[Nat.succ_mul] at this;exact this
 cases hi:P.info? e with
 | none=>rw[hi] at hs;cases hs
 | some j =>
   rw[hi] at hs;have hk:j.size=k:=by simpa using hs
   unfold L3;rw[hi];simp only[hg];rw[hv,hk,h.eq,Nat.zero_add,if_pos ⟨h.len y,h1,by rw[Sx h.len];exact hle⟩,h.eq];congr 3;unfold J0;rw[h.len y,WK h.len,show i*k+k=(i+1)*k by rw[Nat.succ_mul],WJ h.len,xX y hlt,WI,I2,List.append_assoc]
end
end AI
namespace AI
open Go Go.RowKit
section
variable {P:Program} {G:Bc}
def aCB(n:Nat):List Nat->Bool
 | []=>false
 | k::l=>Nat.beq n k||aCB n l
def YY(ks:List Nat):List (Nat×Bl)->List (Nat×Bl)
 | []=>[]
 | e::l=>match aCB e.1 ks with
   | true=>e::YY ks l
   | false=>YY ks l
def TY{ks:List Nat}:∀{l:List (Nat×Bl)} {n:Nat},Kt l n->Kt (YY ks l) n
 | [],_,_=>trivial
 | e::l,n,h=>by
   simp only[YY];split;exact⟨h.1,TY h.2⟩;exact(TY h.2).mono (Nat.le_of_lt h.1)
def TZ{ks:List Nat}{id:Nat}{b:Bl}:∀{l:List (Nat×Bl)} {n:Nat},Kt l n->look id (YY ks l)=some b->look id l=some b
 | [],_,_,h=>h
 | e::l,n,hd,h=>by
   simp only[YY] at h;split at h;simp only[look] at h ⊢;split at h;exact h;exact TZ hd.2 h;have h1:=TZ hd.2 h;have h2:=eO hd.2 h1;simp only[look];split;rename_i hb;have:=beq_true hb;omega;exact h1
def AS.pick(s:AS)(ks:List Nat):AS:=⟨YY ks s.h,s.nx,s.F,s.nr⟩
def St.pick{c:Cx}{w:World}{s:AS}(h:St G c w s)(ks:List Nat):St G c w (s.pick ks) :=
 ⟨h.len,TY h.desc,h.nodup,h.low,λid g b h1 h2=>h.box id g b h1 (TZ h.desc h2),h.JY,h.row,h.Ko,h.ON,h.OH,h.JU,h.Pm,h.R2⟩
inductive RnH(dn dr nx nr:Nat):List (Nat×Bl)->List (Nat×Bl)->Prop where
 | nil:RnH dn dr nx nr [] []
 | cons {i:Nat} {b b':Bl} {l m:List (Nat×Bl)} (h:vA dn dr (λi=>nx+i) (λr=>nr+r) b b') (t:RnH dn dr nx nr l m):RnH dn dr nx nr ((i,b)::l) ((nx+i,b')::m)
def RnH.desc{dn dr nx nr:Nat}{l m h:List (Nat×Bl)}(hr:RnH dn dr nx nr l m)(hh:Kt h nx):∀{n:Nat},Kt l n->Kt (m++h) (nx+n):=by
 induction hr with
 | nil=>intro n _;exact hh.mono (Nat.le_add_right _ _)
 | cons h1 t ih=>intro n hd;exact⟨Nat.add_lt_add_left hd.1 _,ih hd.2⟩
def RnH.look{dn dr nx nr id:Nat}{b:Bl}{l m h:List (Nat×Bl)}(hr:RnH dn dr nx nr l m)(hb:AI.look id (m++h)=some b):(∃i b0,id=nx+i/\AI.look i l=some b0/\vA dn dr (λi=>nx+i) (λr=>nr+r) b0 b)\/AI.look id h=some b:=by
 induction hr with
 | nil=>exact .inr hb
 | @cons i b0 b1 l m h1 t ih =>
   simp only[List.cons_append,AI.look] at hb;split at hb;rename_i he;cases hb;refine .inl ⟨i,b0,(beq_true he).symm,?_,h1⟩;simp only[AI.look];rw[Nat.beq_refl];rename_i he;have hne:=beq_false he;rcases ih hb with ⟨i',b',e,h2,h3⟩ | h2
   refine .inl ⟨i',b',e,?_,h3⟩;simp only[AI.look];split;rename_i h4;have:=beq_true h4;omega;exact h2;exact .inr h2
end
end AI
namespace AI
open Go Go.RowKit
section
variable {P:Program} {G:Bc}
def Rk.auV{α:Type}{f:α->List AV}{C:List α->List AV}{k:Nat}(h:Rk f C k)(h1:∀x,(f x).all one=true)(m:List α):(C m).all one=true:=by
 rw[h.eq,List.all_eq_true];intro a ha;obtain⟨x,_,hx⟩:=List.mem_flatMap.1 ha;exact List.all_eq_true.1 (h1 x) a hx
def Rk.ga{α:Type}{f:α->List AV}{C:List α->List AV}{k:Nat}(h:Rk f C k){t tx e e2 by':Nat}(hu:P.underlying t=some (.slice e))(hux:P.underlying tx=some (.slice e2))(hi:(P.info? e).map (λi=>(i.size,i.bytes,i.zero.map (·.cells.size)))=some (k,by',some k))(hk:0 < k)(hb:by'<=10000)
   (own:Own) (l m:List α) {o:Own} (s:AS) (hm:m.length=0) (hlen:l.length+m.length<=100000000):Cd.ok P G (.Wk s t tx (.sl own l.length (C l)) (.sl o m.length (C m)) (.sl own l.length (C l)) s):=by
 have hm0:m=[]:=List.eq_nil_of_length_eq_zero hm;subst hm0;cases hq:P.info? e with
 | none=>rw[hq] at hi;cases hi
 | some i =>
   rw[hq] at hi;simp only[Option.map_some,Option.some.injEq,Prod.mk.injEq] at hi;obtain⟨h1,h2,h3⟩:=hi;cases hz:i.zero with
   | none=>rw[hz] at h3;cases h3
   | some z =>
     rw[hz] at h3;simp only[Option.map_some,Option.some.injEq] at h3;have hc:C []=[]:=by rw[h.eq];rfl
     have wN:(C l).length=l.length*k:=by rw[h.eq,Sx h.len]
     refine⟨.sl own l.length (C l),?_,λc w u hr=>hr⟩
     have hs:hU P s i.size tx (.sl o ([]:List α).length (C []))=some (0,[]):=by
       unfold hU;rw[hux,hc];simp
     unfold Mi;simp only[hu,hq,hz];rw[if_pos ⟨by rw[h3,h1],by omega⟩,hs];simp only[List.length_nil] at hlen ⊢
     have hbb:(l.length+0)*i.bytes<=140737488355328:=by
       rw[h2];exact Nat.le_trans (Nat.mul_le_mul hlen hb) (by decide)
     rw[if_pos ⟨by rw[wN,h1],rfl,hbb,by omega⟩,if_pos trivial]
def aMH{s:AS}{t tx:TypeId}{a b:AV}(h:Cd.ok P G (.Wk s t tx a b a s)):PC P G:=⟨.ae a,[.Wk s t tx a b a s],⟨h,trivial⟩⟩
end
end AI
namespace AI
open Go Go.RowKit
def asF:Nat->Nat->List Nat->List Nat
 | 0,_,acc=>acc
 | k+1,n,acc=>match Nat.ble n 1 with
   | true=>acc
   | false=>asF k (n / 2) (n % 2::acc)
def sb(c:Code)(n:Nat):Code:=sub c (asF 200 n [])
def wk1(a:AV):AV->AV
 | .any=>nT a
 | .sl .lost _ _=>(match a with
   | .sl _ n cs=>.sl .lost n cs
   | a=>a)
 | _=>a
def aAN{c:Cx}{w:World}{a b:AV}{v:Value}(hr:Rp c w a v):Rp c w (wk1 a b) v:=by
 unfold wk1;split;exact wB hr;split;cases hr with
 | sl0 _=>exact .sl0 trivial
 | M9 hn hc _=>exact .M9 hn hc trivial
 exact hr;exact hr
def wkF:List AV->List AV->List AV
 | a::l,b::k=>wk1 a b::wkF l k
 | l,_=>l
def SD{c:Cx}{w:World}:∀{l k:List AV} {vs:List Value},CU c w l vs->CU c w (wkF l k) vs
 | [],k,_,h=>by cases k<;>exact h
 | a::l,[],_,h=>h
 | a::l,b::k,_,h=>by cases h with | cons h1 t=>exact .cons (aAN h1) (SD t)
def pK(n:Nat):AV->Bool
 | .fn _ a b=>xC a&&xC b
 | a=>obv n a
where
 xC:List AV->Bool
   | []=>true
   | a::l=>obv n a&&xC l
def Xq{n m:Nat}:∀{l:List AV},pK.xC n l=true->FD n m l=true
 | [],_=>rfl
 | a::l,h=>by
   simp only[pK.xC,Bool.and_eq_true] at h;simp only[FD,Bool.and_eq_true];refine⟨?_,Xq h.2⟩;have h1:=h.1;cases a<;>simp only[obv] at h1<;>first | rfl | (cases h1;done) | exact decide_eq_true (Nat.le_of_ble_eq_true h1)
def anK{n m:Nat}{a:AV}(h:pK n a=true):Fits n m a a:=by
 cases a with
 | fn f a b =>
   simp only[pK,Bool.and_eq_true] at h;exact .under (by simp only[under,Bool.and_eq_true];exact⟨Xq h.1,Xq h.2⟩)
 | _=>exact ayP h
def pE(r:List AV->MR)(n:Nat)(a:AV)(bs:List AV):MR:=match pK n a with
 | true=>sX a (r bs)
 | false=>none
def ZV(n:Nat):List AV->List AV->List AV->MR
 | [],_,[]=>some ([],[])
 | [],_,_::_=>none
 | a::l,[],bs=>sY (ZV n l []) a bs
 | a::l,b::k,bs=>match Sd b with
   | true=>sY (ZV n l k) a bs
   | false=>(match pK n b with
     | true=>pE (ZV n l k) n a bs
     | false=>ayD (ZV n l k) a bs)
def wV{n m:Nat}{r:List AV->MR}{l:List AV}(hr:∀(fps:List (FP n m)) l2,r (mW fps)=some (l2,rR fps)->KX n m l l2){a:AV}{fps:List (FP n m)}{l2:List AV}(h:pE r n a (mW fps)=some (l2,rR fps)):KX n m (a::l) l2:=by
 unfold pE at h;split at h;rename_i ho;unfold sX at h;split at h;rename_i l3 as h1;cases h;exact .cons (anK ho) (hr fps _ h1);cases h;cases h
def anH{n m:Nat}:∀{l k:List AV} {fps:List (FP n m)} {l2:List AV},ZV n l k (mW fps)=some (l2,rR fps)->KX n m l l2:=by
 intro l
 induction l with
 | nil =>
   intro k fps l2 h;cases fps with
   | nil=>simp only[mW,ZV] at h;cases h;exact .nil
   | cons p fps=>simp only[mW,ZV] at h;cases h
 | cons a l ih =>
   intro k fps l2 h;cases k with
   | nil=>simp only[ZV] at h;exact jN (λfps l2 h=>ih h) h
   | cons b k =>
     simp only[ZV] at h;split at h;exact jN (λfps l2 h=>ih h) h;split at h;exact wV (λfps l2 h=>ih h) h;exact anF (λfps l2 h=>ih h) h
abbrev FO(n m:Nat):=Option (FB n m)
def zQ{n m:Nat}:List (FO n m)->List (Option Bl)
 | []=>[]
 | none::l=>none::zQ l
 | some p::l=>some p.a::zQ l
def oB{n m:Nat}:List (FO n m)->List (Option Bl)
 | []=>[]
 | none::l=>none::oB l
 | some p::l=>some p.b::oB l
def aMD(n:Nat):Bl->Bool
 | .cells cs=>pK.xC n cs
 | _=>false
abbrev BO:=Option (List (Nat×Bl)×List (Option Bl))
def tD(id:Nat)(a:Option Bl)(b:Bl):BO->BO
 | some (l,as)=>some ((id,b)::l,a::as)
 | none=>none
def ZN(n:Nat):List (Nat×Bl)->List (Option Bl)->BO
 | [],[]=>some ([],[])
 | e::l,none::bs=>(match aMD n e.2 with
   | true=>tD e.1 none e.2 (ZN n l bs)
   | false=>none)
 | e::l,some b::bs=>tD e.1 (some e.2) b (ZN n l bs)
 | _,_=>none
def akY{n m:Nat}:∀{l:List (Nat×Bl)} {Xj:List (FO n m)} {l2:List (Nat×Bl)},ZN n l (oB Xj)=some (l2,zQ Xj)->(∀k,Kt l k->Kt l2 k)/\∀id b,look id l2=some b->∃b',look id l=some b'/\Tf n m b' b:=by
 intro l
 induction l with
 | nil =>
   intro Xj l2 h;cases Xj with
   | nil=>simp only[oB,ZN] at h;cases h;exact⟨λ_ _=>trivial,λid b h=>by cases h⟩
   | cons p Xj=>cases p<;>(simp only[oB,ZN] at h;cases h)
 | cons e l ih =>
   intro Xj l2 h
   have fin:∀{Xj:List (FO n m)} {l3:List (Nat×Bl)} {b2:Bl},ZN n l (oB Xj)=some (l3,zQ Xj)->Tf n m e.2 b2->(∀k,Kt (e::l) k->Kt ((e.1,b2)::l3) k)/\∀id b,look id ((e.1,b2)::l3)=some b->∃b',look id (e::l)=some b'/\Tf n m b' b:=by
     intro Xj l3 b2 h1 hf;obtain⟨hd,hl⟩:=ih h1;refine⟨λk hk=>⟨hk.1,hd _ hk.2⟩,λid b hb=>?_⟩;simp only[look] at hb ⊢;split at hb;cases hb;exact⟨e.2,rfl,hf⟩;exact hl id b hb
   cases Xj with
   | nil=>simp only[oB,ZN] at h;cases h
   | cons p Xj =>
     cases p with
     | none =>
       simp only[oB,ZN] at h;split at h;rename_i ho;unfold tD at h;split at h;rename_i l3 as h1;simp only[zQ,Option.some.injEq,Prod.mk.injEq,List.cons.injEq,true_and] at h;obtain⟨rfl,rfl⟩:=h;refine fin h1 ?_;cases he:e.2 with
       | cells cs=>rw[he] at ho;exact .cells (.under (Xq ho))
       | _=>rw[he] at ho;cases ho
       cases h;cases h
     | some p =>
       simp only[oB,ZN] at h;unfold tD at h;split at h;rename_i l3 as h1;simp only[zQ,Option.some.injEq,Prod.mk.injEq,List.cons.injEq] at h;obtain⟨rfl,h2,rfl⟩:=h;exact fin h1 (by rw[h2];exact p.h);cases h
abbrev RO2:=Option (List AV×AS×List AV×List (Option Bl))
def afY(qM:List AV)(n m:Nat)(fr':List AV)(s':AS)(bs:List AV)(cs:List (Option Bl)):RO2 :=
 match ZV n fr' qM bs with
 | some (fr2,as)=>(match ZN n (UK n s'.h) cs with
   | some (h2,cas)=>some (fr2,⟨h2,n,aD m s'.F,m⟩,as,cas)
   | none=>none)
 | none=>none
section
variable {P:Program} {G:Bc}
def fF(hG:∀g cs,G g=some cs->BN cs=true){qM:List AV}{s0:AS}{fr':List AV}{s':AS}{fps:List (FP s0.nx s0.nr)}{Xj:List (FO s0.nx s0.nr)}{fr2:List AV}{s2:AS}(h:afY qM s0.nx s0.nr fr' s' (mW fps) (oB Xj)=some (fr2,s2,rR fps,zQ Xj)):Frg G s0 fr' s' fr2 s2:=by
 unfold afY at h;split at h;rename_i f1 as hm;split at h;rename_i h1 cas hb;simp only[Option.some.injEq,Prod.mk.injEq] at h;obtain⟨rfl,rfl,rfl,rfl⟩:=h;intro cx w c' w' vs hx hs hs' hfr;obtain⟨hd,hl⟩:=akY hb;refine alV (s:=s0) (s2:=⟨h1,s0.nx,aD s0.nr s'.F,s0.nr⟩) hG rfl rfl (hd _ (abP hs'.desc)) (λid b hb=>?_) (λr n hr=>acE hr) (anH hm) cx w c' w' vs hx hs hs' hfr;obtain⟨b',h3,h4⟩:=hl id b hb;exact⟨b',Yf hs'.desc h3,h4⟩;cases h;cases h
def Frg.wk{s0 s':AS}{fr' k:List AV}:Frg G s0 fr' s' (wkF fr' k) s':=λ_ _ c' _ _ hx _ hs' hfr=>⟨c',hx,hs',SD hfr⟩
def xO(qM:List AV):HR->Option (AX×List Cd×List AV×AS)
 | some (.fin e,[],cd,fr,s)=>some (e,cd,wkF fr qM,s)
 | _=>none
def G6{r:HR}{X:Prop}{L:Code}{s0:AS}{Q:AX->List AV->AS->Prop}{l:List (PC P G)}{fr2:List AV}{s2:AS}(R:VB P G l (Ua P G L s0 Q) r X)(h:xO fr2 r=some (.normal,nB l,fr2,s2))(k:WL P G (XS P G) H0 L fr2 s2 Q):X:=by
 unfold xO at h;split at h;simp only[Option.some.injEq,Prod.mk.injEq] at h;obtain⟨rfl,rfl,h3,rfl⟩:=h;exact R _ _ _ _ rfl (Pu l) ⟨_,_,h3▸Frg.wk,k⟩;cases h
def Dx{r:HR}{X:Prop}{L:Code}{s0:AS}{Q:AX->List AV->AS->Prop}{l:List (PC P G)}{id:Nat}{fr2:List AV}{s2:AS}(R:VB P G l (Ua P G L s0 Q) r X)(h:xO fr2 r=some (.exit id,nB l,fr2,s2))(k:Q (.exit id) fr2 s2):X:=by
 unfold xO at h;split at h;simp only[Option.some.injEq,Prod.mk.injEq] at h;obtain⟨rfl,rfl,h3,rfl⟩:=h;exact R _ _ _ _ rfl (Pu l) ⟨_,_,h3▸Frg.wk,k⟩;cases h
def atT(qM:List AV)(n m:Nat)(bs:List AV)(cs:List (Option Bl)):HR->Option (AX×List Cd×List AV×AS×List AV×List (Option Bl))
 | some (.fin e,[],cd,fr,s)=>(match afY qM n m fr s bs cs with
   | some (fr2,s2,as,cas)=>some (e,cd,fr2,s2,as,cas)
   | none=>none)
 | _=>none
def H3(hG:∀g cs,G g=some cs->BN cs=true){r:HR}{X:Prop}{L:Code}{s0:AS}{Q:AX->List AV->AS->Prop}{l:List (PC P G)}(fps:List (FP s0.nx s0.nr))(Xj:List (FO s0.nx s0.nr)){fr2:List AV}{s2:AS}(R:VB P G l (Ua P G L s0 Q) r X)
   (h:atT fr2 s0.nx s0.nr (mW fps) (oB Xj) r=some (.normal,nB l,fr2,s2,rR fps,zQ Xj)) (k:WL P G (XS P G) H0 L fr2 s2 Q):X:=by
 unfold atT at h;split at h;split at h;rename_i h1;simp only[Option.some.injEq,Prod.mk.injEq] at h;obtain⟨rfl,rfl,rfl,rfl,rfl,rfl⟩:=h;exact R _ _ _ _ rfl (Pu l) ⟨_,_,fF hG h1,k⟩;cases h;cases h
def aEE(n m0:Nat)(P:Program)(fn:Func)(m:Nat)(e0:AX)(qM bs:List AV)(cs:List (Option Bl)):HR->Option (AX×List Cd×List AV×AS×List AV×List (Option Bl))
 | some (.fin e,[],cd,fr,s)=>(match JF P s fn fr with
   | some v=>(match afY qM n m0 [v] (s.cut m) bs cs with
     | some (fr2,s2,as,cas)=>some (e,cd,fr2,s2,as,cas)
     | none=>none)
   | none=>none)
 | _=>none
def Aw(hG:∀g cs,G g=some cs->BN cs=true){r:HR}{X:Prop}{s0:AS}{Q:AX->List AV->AS->Prop}(fn:Func)(m:Nat){l:List (PC P G)}(fps:List (FP s0.nx s0.nr))(Xj:List (FO s0.nx s0.nr)){v:AV}{s2:AS}(R:VB P G l Q r X)
   (h:aEE s0.nx s0.nr P fn m .ret [v] (mW fps) (oB Xj) r=some (.ret,nB l,[v],s2,rR fps,zQ Xj)) (k:RE P G fn m s0 Q v s2):X:=by
 unfold aEE at h;split at h;split at h;rename_i v' hv;split at h;rename_i h1;simp only[Option.some.injEq,Prod.mk.injEq] at h;obtain⟨rfl,rfl,rfl,rfl,rfl,rfl⟩:=h;exact R _ _ _ _ rfl (Pu l) (k _ _ (fF hG h1) _ _ hv rfl);cases h;cases h;cases h
def aAY(z:List NZ)(qM:List AV):HR->Option (List Cd×Nat×Code×List KI×List AV×AS)
 | some (.at id c ks,[],cd,fr,s)=>(match nzs z fr s with
   | some (fr2,s2)=>some (cd,id,c,ks,wkF fr2 qM,s2)
   | none=>none)
 | _=>none
def G4{r:HR}{X:Prop}{Q:AX->List AV->AS->Prop}{l:List (PC P G)}(z:List NZ)(id:Nat)(L:Code)(QD:List KI){fr2:List AV}{s2:AS}(R:VB P G l Q r X)
   (h:aAY z fr2 r=some (nB l,id,L,QD,fr2,s2)) (k:WL P G (XS P G) H0 L fr2 s2 (EM id (Ee P G QD Q))):X:=by
 unfold aAY at h;split at h;split at h;rename_i fr3 s3 hz;simp only[Option.some.injEq,Prod.mk.injEq] at h;obtain⟨rfl,rfl,rfl,rfl,h5,rfl⟩:=h;refine R _ _ _ _ rfl (Pu l) ?_;obtain⟨e3,fr4,s4,h3,h4⟩:=k;refine⟨e3,fr4,s4,.auI (λcx w vs hs hr=>?_) h3,h4⟩;obtain⟨c2,x2,Xx,r2⟩:=pH hz cx w vs hs hr;exact⟨c2,x2,Xx,h5▸SD r2⟩;cases h;cases h
def jv(j:List Value)(k:Nat):Value:=ayL j k
def hdv(p:Nat):List (Nat×Value)->Option Value
 | []=>none
 | e::_=>(match Nat.beq e.1 p with | true=>some e.2 | false=>none)
def jsN(j:List Value)(l:List (Nat×Value))(k:Nat):Nat->List Value
 | 0=>[]
 | n+1=>(match hdv k l with
   | some v=>v::jsN j (l.drop 1) (k+1) n
   | none=>jv j k::jsN j l (k+1) n)
def js(n:Nat)(j:List Value)(l:List (Nat×Value)):List Value:=jsN j l 0 n
def frQ:Nat->Nat->List (Nat×AV)->List Nat->Nat->List Value->List AV
 | 0,_,_,_,_,_=>[]
 | n+1,p,l,bs,kb,j=>(match frm.hd1 p l with
   | some v=>v::frQ n (p+1) (l.drop 1) bs kb j
   | none=>(match frm.hd2 p bs with
     | true=>.sc (jv j kb)::frQ n (p+1) l (bs.drop 1) (kb+1) j
     | false=>.any::frQ n (p+1) l bs kb j))
def fr(n:Nat)(l:List (Nat×AV))(bs:List Nat)(j:List Value):List AV:=frQ n 0 l bs 0 j
def exR{δ:Type}(Q:AX->List AV->AS->Prop)(id:Nat)(F:δ->List Value->List AV)(S:δ->AS)(d:δ):Prop:=∀j,Q (.exit id) (F d j) (S d)
section loops
variable {α γ δ ρ β:Type} {id:Nat} {L:Code} {QD:List KI} {Q:AX->List AV->AS->Prop} {done:γ->δ} {X:Prop} {k:δ->Option β} {kr:ρ->Option β} {r:β}
def RF(Rv:(AX->List AV->AS->Prop)->ρ->Prop){body:Nat->α->γ->Option (Lp γ δ ρ)}{l:List α}{i0:Nat}{x:γ}(F:Nat->γ->List Value->List AV)(S:γ->AS)(XF:δ->List Value->List AV)(SX:δ->AS)(j:List Value)
   (TL:WL P G (XS P G) H0 L (F i0 x j) (S x) (EM id (Ee P G QD Q))->X)
   (hz:∀i x j,l.length<=i->exR (EM id (Ee P G QD Q)) id XF SX (done x)->W P G (XS P G) H0 L (F i x j) (S x) (Ua P G L (S x) (EM id (Ee P G QD Q))))
   (hs:∀i y x j r,l[i]?=some y->i < l.length->i < 9223372036854775807->RQ (λx'=>∀j',WL P G (XS P G) H0 L (F (i+1) x' j') (S x') (EM id (Ee P G QD Q))) (exR (EM id (Ee P G QD Q)) id XF SX) (Rv (EM id (Ee P G QD Q))) r->body i y x=some r->W P G (XS P G) H0 L (F i x j) (S x) (Ua P G L (S x) (EM id (Ee P G QD Q))))
   (hb:∀d j,k d=some r->Ee P G QD Q .normal (XF d j) (SX d)) (hr:∀v,kr v=some r->Rv (EM id (Ee P G QD Q)) v) :
   (Rt l.length (CL body done (l.drop i0) i0 x)).bind (LZ k kr)=some r->X:=λh=>by
 obtain⟨res,h1,h2⟩:=cY h;obtain⟨hl,h1⟩:=ayA h1;refine TL (akQ l F (λ_ x _=>S x) (λ_=>True) (exR (EM id (Ee P G QD Q)) id XF SX) (Rv (EM id (Ee P G QD Q))) (λi x j _ h3 h4=>cO (hz i x j h3 h4)) (λi y x j r _ h3 h4 h5 h6=>cO (hs i y x j r h3 h4 (by omega) (by cases r with | nx _=>exact λj'=>h6 j' trivial | ex _=>exact h6 | rt _=>exact h6) h5)) i0 h1 ?_ j trivial)
 cases res with
 | inl d =>
   intro j;show Ee P G QD Q (EZ id (.exit id)) _ _;rw[show EZ id (.exit id)=.normal from by simp[EZ]];exact hb d j h2
 | inr v=>exact hr v h2
def Pg(Rv:(AX->List AV->AS->Prop)->ρ->Prop){body:γ->Option (Lp γ δ ρ)}{x:γ}(F:γ->List Value->List AV)(S:γ->AS)(XF:δ->List Value->List AV)(SX:δ->AS)(j:List Value)
   (TL:WL P G (XS P G) H0 L (F x j) (S x) (EM id (Ee P G QD Q))->X)
   (hs:∀x j r,RQ (λx'=>∀j',WL P G (XS P G) H0 L (F x' j') (S x') (EM id (Ee P G QD Q))) (exR (EM id (Ee P G QD Q)) id XF SX) (Rv (EM id (Ee P G QD Q))) r->body x=some r->W P G (XS P G) H0 L (F x j) (S x) (Ua P G L (S x) (EM id (Ee P G QD Q))))
   (hb:∀d j,k d=some r->Ee P G QD Q .normal (XF d j) (SX d)) (hr:∀v,kr v=some r->Rv (EM id (Ee P G QD Q)) v) :
   (L6 body x).bind (LZ k kr)=some r->X:=λh=>by
 obtain⟨res,h1,h2⟩:=cY h;obtain⟨n,h1⟩:=alT h1;refine TL (akR F (λx _=>S x) (λ_=>True) (exR (EM id (Ee P G QD Q)) id XF SX) (Rv (EM id (Ee P G QD Q))) (λx j r _ h5 h6=>cO (hs x j r (by cases r with | nx _=>exact λj'=>h6 j' trivial | ex _=>exact h6 | rt _=>exact h6) h5)) n h1 ?_ j trivial)
 cases res with
 | inl d =>
   intro j;show Ee P G QD Q (EZ id (.exit id)) _ _;rw[show EZ id (.exit id)=.normal from by simp[EZ]];exact hb d j h2
 | inr v=>exact hr v h2
end loops
def IN{ks:List KI}{fr:List AV}{s:AS}{Q:AX->List AV->AS->Prop}(n:Nat)(l:List (PC P G)):VB P G l Q (RH (TK P G n) ks .normal (pHs l) fr s) (Ee P G ks Q .normal fr s):=λ_ _ _ _ h hc hk=>dP (dR n) ks _ h hc hk
def pi{i:Nat}(h:i < 9223372036854775807):PC P G:=aMI i h
def bp{n m:Nat}{a:List AV}(h:BN a=true):FO n m:=some ⟨.cells a,.cells a,.cells (.plain h)⟩
def bu{n m:Nat}(a:List AV)(h:FD n m a=true):FO n m:=some ⟨.cells a,.cells a,.cells (.under h)⟩
def bw{n m:Nat}(a b:Bl)(h:Tf n m a b):FO n m:=some ⟨a,b,h⟩
end
end AI
namespace AI
open Go Go.RowKit
section
variable {P:Program} {G:Bc}
def asA(G:Bc)(s:AS)(a v:AV):Prop:=∀(c:Cx) (w:World) (u:Value),St G c w s->(∀g,some g∈c.Dv->∀i,¬c.bad g i)->Rp c w a u->Rp (c.upto 0 0) w v u
inductive Fz(s:AS):List AV->List AV->Prop where
 | nil:Fz s [] []
 | r {a b:AV} {l k:List AV} (h:Fits 0 0 a b) (t:Fz s l k):Fz s (a::l) (b::k)
 | f {id n:Nat} {cs l k:List AV} (h:s.get id=some (.cells cs)) (hp:BN cs=true) (t:Fz s l k):Fz s (.msl id 0 n::l) (.sl .lost n cs::k)
 | g {cs ds l k:List AV} (h:Fz s cs ds) (t:Fz s l k):Fz s (.agg cs::l) (.agg ds::k)
 | u {cs ds l k:List AV} (h:Fz s cs ds) (t:Fz s l k):Fz s (.CZ cs::l) (.CZ ds::k)
def Fz.ok{s:AS}{c:Cx}{w:World}(hs:St G c w s)(hb:∀g,some g∈c.Dv->∀i,¬c.bad g i){l k:List AV}(h:Fz s l k):∀{us:List Value},CU c w l us->CU (c.upto 0 0) w k us:=by
 induction h with
 | nil=>intro us hr;cases hr;exact .nil
 | r h _ ih=>intro us hr;cases hr with | cons h1 t=>exact .cons (h _ _ _ h1) (ih t)
 | @f id n cs l k h hp _ ih =>
   intro us hr;cases hr with
   | cons h1 t =>
     refine .cons ?_ (ih t);cases h1 with
     | @msl _ _ _ g cap hn hid =>
       obtain⟨vs,ext,T,hw,hv⟩:=SJ hs hid h;have hg:=List.mem_of_getElem? hid
       have Nu:∀g i v,PJ c w g i v->PJ (c.upto 0 0) w g i v:=λg i v hv=>⟨hv.1,λKj=>by
         rcases Kj with Kj | ⟨r,n',cap',PM,hr,_⟩ | Kj
         simp[Cx.upto] at Kj;simp[Cx.upto] at hr;exact hv.2.1 (.inr (.inr Kj)),hv.2.2⟩
       refine .M9 hn (Bk.QX (CU.plain Nu hp hv) (λi v hi=>?_)) trivial;rw[Nat.zero_add];refine⟨hs.ON g hg,λKj=>?_,cell_of_heap hw (Xg hi)⟩;rcases Kj with Kj | ⟨r,n',cap',PM,hr,_⟩ | Kj
       simp[Cx.upto] at Kj;simp[Cx.upto] at hr;exact hb g hg i Kj
 | g _ _ oV ih2=>intro us hr;cases hr with | cons h1 t=>cases h1 with | agg h2=>exact .cons (.agg (oV h2)) (ih2 t)
 | u _ _ oV ih2=>intro us hr;cases hr with | cons h1 t=>cases h1 with | CZ h2=>exact .cons (.CZ (oV h2)) (ih2 t)
def asA.of{s:AS}{a v:AV}(h:Fz s [a] [v]):asA G s a v:=λc w u hs hb hr=>by
 have:=h.ok hs hb (.cons hr .nil);cases this with
 | cons h1 _=>exact h1
end
end AI
namespace AI
open Go
end AI
namespace AI
open Go Go.RowKit
end AI
namespace AI
open Go Go.RowKit
abbrev EW:=Cx->World->Prop
abbrev QE:=AX->List AV->AS->EW->Prop
def EOk(e:AX)(fr:List AV)(c:Cx)(w:World)(e':Exit)(a:Act):Prop:=match e with
 | .normal=>e'=.normal/\CU c w fr a.tmps.toList
 | .exit id=>e'=.exit id/\CU c w fr a.tmps.toList
 | .ret=>e'=.ret/\CU c w fr a.tmps.toList
 | .pan v=>∃u,e'=.panic [{ v:=u,recovered:=false }]/\Rp c w v u
def EPost(G:Bc)(Q:QE)(K:Exit->Act->World->Prop):Prop:=∀e fr s E,Q e fr s E->∀(cx:Cx) (w:World) (a:Act) (e':Exit),E cx w->St G cx w s->a.defers=[]->EOk e fr cx w e' a->K e' a w
def WE(P:Program)(G:Bc)(E:EW)(c:Code)(fr:List AV)(s:AS)(Q:QE):Prop:=∀(cx:Cx) (w:World) (a:Act) (K:Exit->Act->World->Prop),E cx w->St G cx w s->CU cx w fr a.tmps.toList->a.defers=[]->EPost G Q K->c.wp P K a w
def Uo(P:Program)(G:Bc)(E:EW)(ops:Array Oper)(l:List Nat)(fr:List AV)(s:AS)(Q:QE):Prop:=∀(cx:Cx) (w:World) (a:Act) (K:Exit->Act->World->Prop),E cx w->St G cx w s->CU cx w fr a.tmps.toList->a.defers=[]->EPost G Q K->wpOps P ops K l a w
def Wi(E:EW):Prop:=∀(cx:Cx) (w:World) (RG:Cx) (w':World),E cx w->Ext cx w RG w'->E RG w'
def EOk.P7{e:AX}{fr:List AV}{c:Cx}{w:World}{e':Exit}{a:Act}(h:EOk e fr c w e' a)(he:e≠.normal):e'≠.normal:=by
 cases e with
 | normal=>exact absurd rfl he
 | exit id=>intro h5;rw[h.1] at h5;cases h5
 | ret=>intro h5;rw[h.1] at h5;cases h5
 | pan v=>obtain⟨u,h5,_⟩:=h;intro h6;rw[h5] at h6;cases h6
section
variable {P:Program} {G:Bc} {E:EW} {fr:List AV} {s:AS} {Q:QE}
def WE.of(hm:P.follows .mixedOrders=true)(hk:Wi E){c:Code}{Q0:AX->List AV->AS->Prop}(h:W P G (XS P G) H0 c fr s Q0)(hQ:∀e fr' s',Q0 e fr' s'->Q e fr' s' E):WE P G E c fr s Q:=by
 obtain⟨e,fr',s',hj,hq⟩:=h;have hS:=sound (TJ hm) hj;intro cx w a K hE hs hf hd hK;refine hS cx w a K hs hf hd ?_;rintro e' a' w' ⟨c',hx,hs',SP,h4⟩;refine hK e fr' s' E (hQ _ _ _ hq) c' w' a' e' (hk _ _ _ _ hE hx) hs' SP ?_;cases e<;>exact h4
def WE.seq{x y:Code}(h:WE P G E x fr s (λe fr' s' E'=>(e=.normal/\WE P G E' y fr' s' Q)\/(e≠.normal/\Q e fr' s' E'))):WE P G E (.seq x y) fr s Q:=by
 intro cx w a K hE hs hf hd hK;refine wp_seq (h cx w a _ hE hs hf hd ?_);rintro e fr' s' E' hq RG w' a' e' oD hs' SP Xm;rcases hq with ⟨rfl,h2⟩ | ⟨hne,hq⟩
 obtain⟨rfl,Yv⟩:=Xm;exact h2 RG w' a' K oD hs' Yv SP hK;exact Vh (Xm.P7 hne) (hK _ _ _ _ hq _ _ _ _ oD hs' SP Xm)
def WE.cond{q:Operand}{x y:Code}{t:Bool}(hq:Bg G fr q=some (.sc (.bool t)))(h:WE P G E (if t then x else y) fr s Q):WE P G E (.cond q x y) fr s Q:=by
 intro cx w a K hE hs hf hd hK;have hr:=Gf hs hf hq
 have IZ:a.eval q=.bool t:=by
   generalize a.eval q=v at hr;cases hr;rfl
 exact wp_cond IZ (h cx w a K hE hs hf hd hK)
def WE.skip(h:Q .normal fr s E):WE P G E .skip fr s Q:=λcx w a K hE hs hf hd hK=>wp_skip (hK _ _ _ _ h cx w a _ hE hs hd ⟨rfl,hf⟩)
def WE.exit{id:Nat}(h:Q (.exit id) fr s E):WE P G E (.exit id) fr s Q:=λcx w a K hE hs hf hd hK=>wp_exit (hK _ _ _ _ h cx w a _ hE hs hd ⟨rfl,hf⟩)
def WE.block{id:Nat}{c:Code}(h:WE P G E c fr s (λe fr' s' E'=>Q (EZ id e) fr' s' E')):WE P G E (.block id c) fr s Q:=by
 intro cx w a K hE hs hf hd hK;refine wp_block (h cx w a _ hE hs hf hd ?_);rintro e fr' s' E' hq RG w' a' e' oD hs' SP h4;cases e with
 | normal=>obtain⟨rfl,h5⟩:=h4;exact hK _ _ _ _ hq RG w' a' _ oD hs' SP ⟨rfl,h5⟩
 | exit Rq =>
   obtain⟨rfl,h5⟩:=h4;show if Rq=id then K .normal a' w' else K (.exit Rq) a' w'
   by_cases hid:Rq=id;rw[if_pos hid];refine hK _ _ _ _ hq RG w' a' _ oD hs' SP ?_;simp only[EZ,hid,if_true];exact⟨rfl,h5⟩;rw[if_neg hid];refine hK _ _ _ _ hq RG w' a' _ oD hs' SP ?_;simp only[EZ,hid,if_false];exact⟨rfl,h5⟩
 | ret=>obtain⟨rfl,h5⟩:=h4;exact hK _ _ _ _ hq RG w' a' _ oD hs' SP ⟨rfl,h5⟩
 | pan v=>obtain⟨u,rfl,h5⟩:=h4;exact hK _ _ _ _ hq RG w' a' _ oD hs' SP ⟨u,rfl,h5⟩
def WE.loop{L:Code}(I:Nat->List AV->AS->EW->Prop)(h:∀m fr s E,I m fr s E->WE P G E L fr s (λe fr' s' E'=>(e=.normal/\∃m',m' < m/\I m' fr' s' E')\/(e≠.normal/\Q e fr' s' E'))){m:Nat}(hi:I m fr s E):WE P G E (.loop L) fr s Q:=by
 have key:∀(n m:Nat) (fr:List AV) (s:AS) (E:EW),m < n->I m fr s E->∀(cx:Cx) (w:World) (a:Act) (K:Exit->Act->World->Prop),E cx w->St G cx w s->CU cx w fr a.tmps.toList->a.defers=[]->EPost G Q K->Code.rounds P L K n a w:=by
   intro n
   induction n with
   | zero=>intro m fr s E hm;omega
   | succ n ih =>
     intro m fr s E hm hi cx w a K hE hs hf hd hK;rw[rounds_succ];refine h m fr s E hi cx w a _ hE hs hf hd ?_;rintro e fr' s' E' hq RG w' a' e' oD hs' SP Xm;rcases hq with ⟨rfl,m',hm',Nt⟩ | ⟨hne,hq⟩
     obtain⟨rfl,Yv⟩:=Xm;exact ih m' fr' s' E' (by omega) Nt RG w' a' K oD hs' Yv SP hK;exact Vh (Xm.P7 hne) (hK _ _ _ _ hq _ _ _ _ oD hs' SP Xm)
 intro cx w a K hE hs hf hd hK;exact wp_loop_rounds (m+1) (key (m+1) m fr s E (Nat.lt_succ_self m) hi cx w a K hE hs hf hd hK)
def WE.region{id:Nat}{ops:Array Oper}(h:Uo P G E ops (List.range ops.size) fr s Q):WE P G E (.region id ops false) fr s Q:=λcx w a K hE hs hf hd hK=>wp_region (h cx w a K hE hs hf hd hK)
def Uo.nil{ops:Array Oper}(h:Q .normal fr s E):Uo P G E ops [] fr s Q:=λcx w a K hE hs hf hd hK=>hK _ _ _ _ h cx w a .normal hE hs hd ⟨rfl,hf⟩
def Uo.op(hm:P.follows .mixedOrders=true)(hk:Wi E){ops:Array Oper}{i:Nat}{l:List Nat}{o:Oper}(v:AV){s1:AS}(ho:ops[i]?=some o)(hj:J P G (XS P G) H0 (.op ops o fr s (.ret v) s1))(t:Uo P G E ops l (Jw fr o.dst v) s1 Q):Uo P G E ops (i::l) fr s Q:=by
 intro cx w a K hE hs hf hd hK;refine Qz ho (sound (TJ hm) hj cx w a _ _ hs (λx _=>eV hs hf x) (NU (c:=cx) (w:=w) (λ_ _ _ _ _=>⟨fr,hf,rfl⟩)) ?_);intro u w' c' hx hs' hu;exact t c' w' (a.put o.dst u) K (hk _ _ _ _ hE hx) hs' (SH (hf.mono hx) hu) (by cases o.dst<;>exact hd) hK
def Uo.sem{E':EW}{ops:Array Oper}{i:Nat}{l:List Nat}{o:Oper}{fr2:List AV}(v:AV){s2:AS}(ho:ops[i]?=some o)(hg:o.guard=none)
   (h:∀(cx:Cx) (w:World) (a:Act),E cx w->St G cx w s->CU cx w fr a.tmps.toList->∃u w' RG,(execOp a.eval o).run P w=.ok (.value u) w'/\E' RG w'/\St G RG w' s2/\CU RG w' fr2 a.tmps.toList/\Rp RG w' v u)
   (t:Uo P G E' ops l (Jw fr2 o.dst v) s2 Q):Uo P G E ops (i::l) fr s Q:=by
 intro cx w a K hE hs hf hd hK;refine Qz ho ?_;obtain⟨u,w',RG,hr,oD,hs',Yv,hu⟩:=h cx w a hE hs hf;unfold OG;have hw:Region.wanted o (yielded ops a.tmps)=true:=by unfold Region.wanted;rw[hg]
 rw[hw];simp only[if_true];unfold Oper.wp;rw[hr];exact t RG w' (a.put o.dst u) K oD hs' (SH Yv hu) (by cases o.dst<;>exact hd) hK
end
def aHE(b:Nat)(B:Nat->Nat->Prop)(w0:World)(E:EW):Prop:=∀(c:Cx) (w:World),E c w->c.base=b/\Below b w0 w/\(∀g i,B g i->c.bad g i)/\∀g i,some g∈c.Dv->c.bad g i->g < b
def E0(b:Nat)(B:Nat->Nat->Prop)(w0:World):EW:=λc w=>c.base=b/\c.bad=B/\Below b w0 w
def E0.UU{b:Nat}{B:Nat->Nat->Prop}{w0:World}:Wi (E0 b B w0):=λcx w RG w' h hx=>⟨hx.base.trans h.1,hx.bad.trans h.2.1,h.2.2.trans (by have:=hx.below;rw[h.1] at this;exact this)⟩
end AI
namespace AI
open Go Go.RowKit
def IM:Code->Array Oper
 | .region _ ops _=>ops
 | _=>#[]
def fC:Code->Nat->Bool
 | .region _ ops d,n=>(match d with
   | false=>Nat.beq ops.size n
   | true=>false)
 | _,_=>false
def aMB:Oper:={ dst:=none,op:=.move (.tmp 0),type:=0,pos:="",after:=#[],guard:=none }
def opAt(c:Code)(i:Nat):Oper:=((IM c)[i]?).getD aMB
def aoF{c:Code}{n:Nat}(h:fC c n=true):(∃id,c=.region id (IM c) false)/\(IM c).size=n:=by
 unfold fC at h;split at h;rename_i id ops d;split at h;exact⟨⟨id,rfl⟩,Nat.eq_of_beq_eq_true h⟩;cases h;cases h
def P9{c:Code}{n i:Nat}(h:fC c n=true)(hi:i < n):(IM c)[i]?=some (opAt c i):=by
 have:=(aoF h).2;unfold opAt;rw[Array.getElem?_eq_getElem (by omega)];rfl
def sT(o:Oper):Option (Operand×TypeId):=match o.guard with
 | none=>(match o.op with
   | .call cl=>(match cl.callee with
     | .builtin .len=>(match cl.args.toList with
       | [x]=>(match cl.argTypes.toList with
         | [t]=>some (x,t)
         | _=>none)
       | _=>none)
     | _=>none)
   | _=>none)
 | some _=>none
def hH(o:Oper):Option (Operand×Operand×TypeId×TypeId):=match o.guard with
 | none=>(match o.op with
   | .call cl=>(match cl.callee with
     | .builtin .append=>(match cl.args.toList with
       | [x,y]=>(match cl.argTypes.toList with
         | [t,tx]=>some (x,y,t,tx)
         | _=>none)
       | _=>none)
     | _=>none)
   | _=>none)
 | some _=>none
def akZ(o:Oper):Option (TypeId×Operand):=match o.guard with
 | none=>(match o.op with
   | .buildSlice t n ps=>(match n with
     | 1=>(match ps.toList with
       | [(0,x)]=>some (t,x)
       | _=>none)
     | _=>none)
   | _=>none)
 | some _=>none
section
variable {P:Program} {w:World} {ρ:Operand->Value} {o:Oper}
def wS{x:Operand}{t e:TypeId}{A:Option Addr}{n cap:Nat}(h:sT o=some (x,t))(hu:P.underlying t=some (.slice e))(ha:ρ x=.slice A n cap):o.guard=none/\(execOp ρ o).run P w=.ok (.value (.int .i64 n)) w:=by
 unfold sT at h;split at h;rename_i hg;refine⟨hg,?_⟩;split at h;rename_i cl ho;split at h;rename_i H9;split at h;rename_i x' hx;split at h;rename_i t' ht;cases h;have e1:cl.args=#[x]:=by apply Array.ext';rw[hx]
 have e2:cl.argTypes=#[t]:=by apply Array.ext';rw[ht]
 simp[execOp,ho,resolve,H9,e1,e2,invoke,builtin,ha,Builtin.len_,run_underlying hu,goInt];cases h;cases h;cases h;cases h;cases h
def Z9{x y:Operand}{t tx:TypeId}{u:Value}{w':World}(h:hH o=some (x,y,t,tx))(hr:∀ty,(Builtin.append_ #[t,tx] ty #[ρ x,ρ y]).run P w=.ok u w'):o.guard=none/\(execOp ρ o).run P w=.ok (.value u) w':=by
 unfold hH at h;split at h;rename_i hg;refine⟨hg,?_⟩;split at h;rename_i cl ho;split at h;rename_i H9;split at h;rename_i x' y' hx;split at h;rename_i t' tx' ht;cases h;have e1:cl.args=#[x,y]:=by apply Array.ext';rw[hx]
 have e2:cl.argTypes=#[t,tx]:=by apply Array.ext';rw[ht]
 simp[execOp,ho,resolve,H9,e1,e2,invoke,builtin,hr];cases h;cases h;cases h;cases h;cases h
def hJ{q:Operand×Operand×TypeId×TypeId}(h:hH o=some q):o.guard=none:=by
 unfold hH at h;split at h;rename_i hg;exact hg;cases h
def aaS{x:Operand}{t e:TypeId}{i:TypeInfo}{z:Value}(h:akZ o=some (t,x))(hu:P.underlying t=some (.slice e))(hi:P.info? e=some i)(hs:i.size=1)(hz:i.zero=some z)(hzs:z.cells.size=1)(hv:(ρ x).cells=#[ρ x]):o.guard=none/\(execOp ρ o).run P w=.ok (.value (.slice (some ⟨w.heap.size,0,none⟩) 1 1)) { w with heap:=w.heap.push (.cells #[ρ x] e) }:=by
 unfold akZ at h;split at h;rename_i hg;refine⟨hg,?_⟩;split at h;rename_i t' n ps ho;split at h;split at h;rename_i x' sJ;cases h;have e1:ps=#[(0,x)]:=by apply Array.ext';rw[sJ]
 have hf:∀B:Array Value,B.size=1->Instr.fill (λi=>some (i,1)) B [(0,ρ x)]=some #[ρ x]:=by
   intro B hB;obtain⟨b,rfl⟩:=Array.size_eq_one_iff.1 hB;simp[Instr.fill,hv]
 have h2:=hf ((Array.range 1).map (z.cells[· % z.cells.size]!)) (by simp);simp only[execOp,ho,e1,Instr.buildSlice,Sem.run_bind,run_underlying hu,Result.andThen_ok,C0 hi,hs,Sem.run_ite,zeroValue,typeInfo,run_program,hi,hz,Sem.run_pure,List.map_toArray,List.map_cons,List.map_nil,Nat.mul_one,Nat.one_ne_zero,if_false,gt_iff_lt,show ¬(2 ^ 24 < 1) from by decide,newRow];rw[h2];simp;cases h;cases h;cases h;cases h
end
end AI
namespace AI
open Go Go.RowKit
def kE(ps:List (Nat×Nat)):List AV:=ps.map λp=>.ptr p.1 p.2
def xH(ps:List (Nat×Nat)):(kE ps).length=ps.length:=by simp[kE]
def cM(b:Nat)(B:Nat->Nat->Prop)(w0:World)(g cap:Nat)(ps:List (Nat×Nat)):EW:=λc w =>
 c.base=b/\Below b w0 w/\(∀g' i,c.bad g' i↔(B g' i\/g'=g))/\b<=g/\some g∉c.Dv/\(∀(r:Nat) n cap' sz,c.rows[r]?≠some (.RS g n cap' sz)) /\
 ∃(vs ext:List Value) (T:TypeId),w.heap[g]?=some (.cells (vs++ext).toArray T (0,0))/\vs.length+ext.length=cap/\CU c w (kE ps) vs
def cM.UU{b:Nat}{B:Nat->Nat->Prop}{w0:World}{g cap:Nat}{ps:List (Nat×Nat)}:Wi (cM b B w0 g cap ps):=by
 rintro cx w RG w' ⟨h1,h2,h3,h4,h5,h6,vs,ext,T,h7,h8,h9⟩ hx;have hg:g < w.heap.size:=(Array.getElem?_eq_some_iff.1 h7).1;refine⟨hx.base.trans h1,h2.trans (by have:=hx.below;rwa[h1] at this),λg' i=>by rw[hx.bad];exact h3 g' i,h4,λhm=>?_,λr n cap' sz hr=>?_,vs,ext,T,by rw[hx.UU g hg h5 h6];exact h7,h8,h9.mono hx⟩;rcases hx.kD g hm with h | h
 exact h5 h;omega;rcases hx.kS r g n cap' sz hr with ⟨r0,n0,R5,lM,h⟩ | h
 exact h6 _ _ _ _ h;omega
def cM.fin{b:Nat}{B:Nat->Nat->Prop}{w0:World}{g cap:Nat}{ps:List (Nat×Nat)}(hB:∀g i,B g i->g < b):aHE b B w0 (cM b B w0 g cap ps):=by
 rintro c w ⟨h1,h2,h3,h4,h5,_⟩;refine⟨h1,h2,λg' i hb=>(h3 g' i).2 (.inl hb),λg' i hg hb=>?_⟩;rcases(h3 g' i).1 hb with h | rfl
 exact hB g' i h;exact absurd hg h5
def St.move{G:Bc}{c c':Cx}{w w':World}{s:AS}(h:St G c w s)(hm:Mon c w c' w')(TN:c'.Dv=c.Dv)(sL:c'.rows=c.rows)(adD:c'.base=c.base)
   (asX:∀k,k < w.heap.size->(some k∈c.Dv\/∃(r:Nat) (n cap sz:Nat),c.rows[r]?=some (.RS k n cap sz))->w'.heap[k]?=w.heap[k]?) (atD:w.heap.size<=w'.heap.size)
   (Ns:∀g i,c'.bad g i->(c.bad g i\/w.heap.size<=g)/\g < w'.heap.size):St G c' w' s:=by
 refine⟨by rw[TN];exact h.len,h.desc,by rw[TN];exact h.nodup,by rw[TN,adD];exact h.low,λid g b h1 h2=>?_,by rw[sL];exact h.JY,λr g n cap sz hr=>?_,by rw[sL];exact h.Ko,λg hg=>Nat.lt_of_lt_of_le (h.ON g (by rwa[TN] at hg)) atD,λg i hb=>(Ns g i hb).2,by rw[sL];exact h.JU,λg cs hg=>(h.Pm g cs hg).Dy hm,by rw[adD];exact Nat.le_trans h.R2 atD⟩;rw[TN] at h1;obtain⟨o,ho,hb⟩:=h.box id g b h1 h2;exact⟨o,by rw[asX g (Array.getElem?_eq_some_iff.1 ho).1 (.inl (List.mem_of_getElem? h1))];exact ho,hb.Dy hm⟩;rw[sL] at hr;obtain⟨a1,a2,a3,a4,vs,T,a5,a6⟩:=h.row r g n cap sz hr;have hlt:=h.Q6 hr;refine⟨λi hb=>?_,by rw[adD];exact a2,by rw[TN];exact a3,a4,vs,T,by rw[asX g hlt (.inr ⟨r,n,cap,sz,hr⟩)];exact a5,a6⟩;rcases(Ns g i hb).1 with h1 | h1
 exact a1 i h1;omega
section
variable {P:Program} {G:Bc} {E:EW} {fr:List AV} {s:AS} {Q:QE}
def Uo.aEM{ι:Type}{E':ι->EW}{ops:Array Oper}{i:Nat}{l:List Nat}{o:Oper}{fr2:List AV}(v:ι->AV){s2:AS}(ho:ops[i]?=some o)(hg:o.guard=none)
   (h:∀(cx:Cx) (w:World) (a:Act),E cx w->St G cx w s->CU cx w fr a.tmps.toList->∃x u w' RG,(execOp a.eval o).run P w=.ok (.value u) w'/\E' x RG w'/\St G RG w' s2/\CU RG w' fr2 a.tmps.toList/\Rp RG w' (v x) u)
   (t:∀x,Uo P G (E' x) ops l (Jw fr2 o.dst (v x)) s2 Q):Uo P G E ops (i::l) fr s Q:=by
 intro cx w a K hE hs hf hd hK;refine Qz ho ?_;obtain⟨x,u,w',RG,hr,oD,hs',Yv,hu⟩:=h cx w a hE hs hf;unfold OG;have hw:Region.wanted o (yielded ops a.tmps)=true:=by unfold Region.wanted;rw[hg]
 rw[hw];simp only[if_true];unfold Oper.wp;rw[hr];exact t x RG w' (a.put o.dst u) K oD hs' (SH Yv hu) (by cases o.dst<;>exact hd) hK
variable {c:Code} {n i:Nat} {l:List Nat}
def Uo.len{x:Operand}{t e:TypeId}{A:Option Addr}{k cap:Nat}(hr:fC c n=true)(hi:i < n)(h:sT (opAt c i)=some (x,t))(hu:P.underlying t=some (.slice e))(ha:Bg G fr x=some (.raw A k cap))
   (j:Uo P G E (IM c) l (Jw fr (opAt c i).dst (.sc (.int .i64 k))) s Q):Uo P G E (IM c) (i::l) fr s Q:=by
 have hgd:(opAt c i).guard=none:=by
   unfold sT at h;split at h;rename_i hg;exact hg;cases h
 refine .sem (.sc (.int .i64 k)) (P9 hr hi) hgd (λcx w a hE hs hf=>?_) j;have hv:=Gf hs hf ha;generalize hq:a.eval x=v at hv;cases hv;exact⟨_,w,cx,(wS h hu hq).2,hE,hs,hf,.sc rfl⟩
variable {b g cap:Nat} {B:Nat->Nat->Prop} {w0:World} {ps:List (Nat×Nat)} {p:Nat×Nat}
def Uo.push{t tx e e2 id off:TypeId}{x y:Operand}(hr:fC c n=true)(hi:i < n)(h:hH (opAt c i)=some (x,y,t,tx))(hu:P.underlying t=some (.slice e))(hux:P.underlying tx=some (.slice e2))
   (he:(P.info? e).map (λi=>(i.size,decide (i.bytes<=10000),i.zero.map (·.cells.size)))=some (1,true,some 1)) (ha:Bg G fr x=some (.raw (some ⟨g,0,none⟩) ps.length cap)) (hy:Bg G fr y=some (.sl .full 1 [.ptr id off])) (hlen:ps.length+1<=100000000)
   (j:∀g' cap',Uo P G (cM b B w0 g' cap' (ps++[(id,off)])) (IM c) l (Jw fr (opAt c i).dst (.raw (some ⟨g',0,none⟩) (ps++[(id,off)]).length cap')) s Q):Uo P G (cM b B w0 g cap ps) (IM c) (i::l) fr s Q:=by
 cases hie:P.info? e with
 | none=>rw[hie] at he;cases he
 | some ie =>
 rw[hie] at he;simp only[Option.map_some,Option.some.injEq,Prod.mk.injEq,decide_eq_true_eq] at he;obtain⟨hsz,hby,hzz⟩:=he;obtain⟨z,hz,hzs⟩:=Option.map_eq_some_iff.1 hzz;refine .aEM (ι:=Nat×Nat) (E':=λq=>cM b B w0 q.1 q.2 (ps++[(id,off)])) (λq=>.raw (some ⟨q.1,0,none⟩) (ps++[(id,off)]).length q.2) (P9 hr hi) (hJ h) (λcx w a hE hs hf=>?_) (λq=>j q.1 q.2);have hva:=Gf hs hf ha;have hvy:=Gf hs hf hy;generalize hqa:a.eval x=va at hva;generalize hqy:a.eval y=vy at hvy;cases hva;obtain⟨h1,h2,h3,h4,h5,h6,vs,ext,T,h7,h8,h9⟩:=hE;have hg:g < w.heap.size:=(Array.getElem?_eq_some_iff.1 h7).1;have hl:=h9.len;rw[xH] at hl;obtain⟨news,hnr,hnl,hsi⟩:=rB (P:=P) (s:=s) (size:=ie.size) (tx:=tx) (n:=1) (cs:=[.ptr id off]) hs (by unfold hU;rw[hux,hsz];rfl) hvy;rw[hsz,Nat.mul_one] at hnl;have aKW:∀g' i v,PJ cx w g' i v->g'≠g:=λg' i v hv e=>hv.2.1 (.inr (.inr ((h3 g' i).2 (.inr e))))
 have asZ:∀{RG:Cx} {w':World},Mon cx w RG w'->CU RG w' (kE (ps++[(id,off)])) (vs++news):=λhm=>by
   unfold kE at h9 ⊢;rw[List.map_append];exact(h9.Dy hm).append (hnr.Dy hm)
 by_cases UP:ps.length+1<=cap;have amK:ps.length+news.length<=(vs++ext).toArray.size:=by rw[hnl,List.size_toArray,List.length_append];omega
 have Gr:=run_storeCells_at P g ps.length T news 0 (vs++ext).toArray w h7 (by simpa using amK) (Xr hnr rfl)
 simp only[Nat.add_zero] at Gr;have TM:=setRow_heap w g (vs++ext).toArray ((vs++ext).toArray.toList.take ps.length++news++(vs++ext).toArray.toList.drop (ps.length+news.length)).toArray T (0,0) h7;have hc:=Hs w g ((vs++ext).toArray.toList.take ps.length++news++(vs++ext).toArray.toList.drop (ps.length+news.length)).toArray
 have awJ:((vs++ext).toArray.toList.take ps.length++news++(vs++ext).toArray.toList.drop (ps.length+news.length))=(vs++news)++ext.drop 1:=by
   simp only[List.toList_toArray];rw[List.take_left' hl,hnl,List.drop_append];rw[List.drop_eq_nil_of_le (by omega),List.nil_append,show ps.length+1 - vs.length=1 by omega]
 rw[awJ] at TM Gr hc;have hm:Mon cx w cx (w.setRow g ((vs++news)++ext.drop 1).toArray):=⟨λ_ _ h=>h,Nat.le_refl _,λr y _ h=>⟨y,h,Ld.refl y⟩,λg' i v hv=>⟨Nat.lt_of_lt_of_le hv.1 hc.size,hv.2.1,by rw[hc.cell hv.1 (aKW g' i v hv)];exact hv.2.2⟩⟩
 refine⟨(g,cap),_,_,cx,(Z9 h (λty=>by
   rw[hqa,hqy];exact Q8 (ty:=ty) hu hie hsi UP (w':=w.setRow g ((vs++news)++ext.drop 1).toArray) (λa ha=>by cases ha;rw[add_lit,Nat.zero_add,hsz,Nat.mul_one];exact Gr) (λh=>by cases h))).2,⟨h1,h2.trans (hc.below (by rw[<- h1];exact hs.R2) (λk hk=>by rw[hk];exact h4)),h3,h4,h5,h6,vs++news,ext.drop 1,T,TM,?_,asZ hm⟩,hs.move hm rfl rfl rfl (λk hk hor=>hc.block k hk (λe=>?_)) hc.size (λg' i hb=>⟨.inl hb,Nat.lt_of_lt_of_le (hs.OH g' i hb) hc.size⟩),hf.Dy hm,?_⟩
 rw[List.length_append,List.length_drop];omega;subst e;rcases hor with h | ⟨r,n',cap',sz,h⟩
 exact h5 h;exact h6 _ _ _ _ h;rw[List.length_append];exact .raw
 have hfc:(Builtin.firstCells ie.size ps.length (.slice (some ⟨g,0,none⟩) ps.length cap)).run P { w with drawn:=w.drawn+1 }=.ok vs.toArray { w with drawn:=w.drawn+1 }:=by
   rw[hsz];refine run_firstCells_some { w with drawn:=w.drawn+1 } 1 ps.length ⟨g,0,none⟩ ps.length cap vs (by omega) (λj v hj=>?_)
   rw[add_lit,Nat.zero_add];exact cell_of_heap h7 (Xg hj)
 have awI:(ps.length+1)*ie.bytes<=140737488355328:=Nat.le_trans (Nat.mul_le_mul hlen hby) (by decide)
 have hex:∃cap',ps.length+1<=cap'/\∀ty,(Builtin.append_ #[t,tx] ty #[.slice (some ⟨g,0,none⟩) ps.length cap,vy]).run P w=.ok (.slice (some ⟨w.heap.size,0,none⟩) (ps.length+1) cap') { w with drawn:=w.drawn+1,heap:=w.heap.push (.cells ((vs++news).toArray++Builtin.zeroCells z.cells (cap' - (ps.length+1))) e) }:=by
   obtain⟨cap',hc',UQ⟩:=Ve (ty:=0) hu hie hz hsi hfc (by omega) (by omega) awI;exact⟨cap',hc',λty=>UQ⟩
 obtain⟨cap',sD,UQ⟩:=hex;have hzc:(Builtin.zeroCells z.cells (cap' - (ps.length+1))).size=cap' - (ps.length+1):=by rw[size_zeroCells,hzs,Nat.mul_one]
 let w':World:={ w with drawn:=w.drawn+1,heap:=w.heap.push (.cells ((vs++news).toArray++Builtin.zeroCells z.cells (cap' - (ps.length+1))) e) }
 have hk:SF w w' (λ_=>False):=⟨rfl,rfl,rfl,by simp[w'],λk hk _=>by simp[w',Array.getElem?_push];intro h;omega⟩
 have TM:w'.heap[w.heap.size]?=some (.cells ((vs++news)++(Builtin.zeroCells z.cells (cap' - (ps.length+1))).toList).toArray e (0,0)):=by
   have:w'.heap[w.heap.size]?=some (.cells ((vs++news).toArray++Builtin.zeroCells z.cells (cap' - (ps.length+1))) e (0,0)):=by simp[w']
   rw[this];congr 2;apply Array.ext';simp
 let RG:Cx:={ cx with bad:=λg' i=>B g' i\/g'=w.heap.size }
 have hBs:∀g' i,B g' i->g' < w.heap.size:=λg' i hb=>hs.OH g' i ((h3 g' i).2 (.inl hb));have hm:Mon cx w RG w':=⟨λ_ _ h=>h,Nat.le_refl _,λr y _ h=>⟨y,h,Ld.refl y⟩,λg' i v hv=>⟨Nat.lt_of_lt_of_le hv.1 hk.size,λKj=>?_,by rw[hk.cell hv.1 not_false];exact hv.2.2⟩⟩;have aKZ:w'.heap.size=w.heap.size+1:=by simp[w']
 refine⟨(w.heap.size,cap'),_,w',RG,(Z9 h (λty=>by rw[hqa,hqy];exact UQ ty)).2,⟨h1,h2.trans (hk.below (by rw[<- h1];exact hs.R2) (λ_ h=>h.elim)),λ_ _=>Iff.rfl,by rw[<- h1];exact hs.R2,λhm'=>?_,λr n' c' sz ZI=>?_,vs++news,_,e,TM,?_,asZ hm⟩,hs.move hm rfl rfl rfl (λk hk' _=>hk.block k hk' not_false) hk.size (λg' i hb=>?_),hf.Dy hm,?_⟩;have:=hs.ON _ hm';omega;have:=hs.Q6 ZI;omega;have hz3:(Builtin.zeroCells z.cells (cap' - (ps.length+1))).toList.length=cap' - (ps.length+1):=by rw[Array.length_toList,hzc]
 show(vs++news).length+_=cap';rw[hz3,List.length_append];omega;rcases hb with hb | rfl
 exact⟨.inl ((h3 g' i).2 (.inl hb)),by have:=hBs g' i hb;omega⟩;exact⟨.inr (Nat.le_refl _),by omega⟩;rw[List.length_append];exact .raw;rcases Kj with Kj | Kj | Kj
 exact hv.2.1 (.inl Kj);exact hv.2.1 (.inr (.inl Kj));rcases Kj with Kj | Kj
 exact hv.2.1 (.inr (.inr ((h3 g' i).2 (.inl Kj))));have:=hv.1;omega
def Uo.begin{t e id off:TypeId}{x:Operand}(hr:fC c n=true)(hi:i < n)(h:akZ (opAt c i)=some (t,x))(hu:P.underlying t=some (.slice e))(he:(P.info? e).map (λi=>(i.size,i.zero.map (·.cells.size)))=some (1,some 1))(ha:Bg G fr x=some (.ptr id off))
   (j:∀g',Uo P G (cM b B w0 g' 1 [(id,off)]) (IM c) l (Jw fr (opAt c i).dst (.raw (some ⟨g',0,none⟩) 1 1)) s Q):Uo P G (E0 b B w0) (IM c) (i::l) fr s Q:=by
 cases hie:P.info? e with
 | none=>rw[hie] at he;cases he
 | some ie =>
 rw[hie] at he;simp only[Option.map_some,Option.some.injEq,Prod.mk.injEq] at he;obtain⟨hsz,hzz⟩:=he;obtain⟨z,hz,hzs⟩:=Option.map_eq_some_iff.1 hzz
 have hgd:(opAt c i).guard=none:=by
   unfold akZ at h;split at h;rename_i hg;exact hg;cases h
 refine .aEM (ι:=Nat) (E':=λq=>cM b B w0 q 1 [(id,off)]) (λq=>.raw (some ⟨q,0,none⟩) 1 1) (P9 hr hi) hgd (λcx w a hE hs hf=>?_) j;have hva:=Gf hs hf ha;generalize hqa:a.eval x=va at hva;obtain⟨h1,h2,h3⟩:=hE;have UQ:=(aaS (P:=P) (w:=w) (ρ:=a.eval) h hu hie hsz hz hzs (by rw[hqa];cases hva;rfl)).2;rw[hqa] at UQ;let w':World:={ w with heap:=w.heap.push (.cells #[va] e) }
 have hk:SF w w' (λ_=>False):=NV w _;let RG:Cx:={ cx with bad:=λg' i=>B g' i\/g'=w.heap.size }
 have hBs:∀g' i,B g' i->g' < w.heap.size:=λg' i hb=>hs.OH g' i (by rw[h2];exact hb);have aKZ:w'.heap.size=w.heap.size+1:=by simp[w']
 have hm:Mon cx w RG w':=⟨λ_ _ h=>h,Nat.le_refl _,λr y _ h=>⟨y,h,Ld.refl y⟩,λg' i v hv=>⟨Nat.lt_of_lt_of_le hv.1 hk.size,λKj=>by
   rcases Kj with Kj | Kj | Kj
   exact hv.2.1 (.inl Kj);exact hv.2.1 (.inr (.inl Kj));rcases Kj with Kj | Kj
   exact hv.2.1 (.inr (.inr (by rw[h2];exact Kj)));have:=hv.1;omega,by rw[hk.cell hv.1 not_false];exact hv.2.2⟩⟩
 refine⟨w.heap.size,_,w',RG,UQ,⟨h1,h3.trans (hk.below (by rw[<- h1];exact hs.R2) (λ_ h=>h.elim)),λ_ _=>Iff.rfl,by rw[<- h1];exact hs.R2,λhm'=>?_,λr n' c' sz ZI=>?_,[va],[],e,by simp[w'],rfl,.cons (hva.Dy hm) .nil⟩,hs.move hm rfl rfl rfl (λk hk' _=>hk.block k hk' not_false) hk.size (λg' i hb=>?_),hf.Dy hm,.raw⟩;have:=hs.ON _ hm';omega;have:=hs.Q6 ZI;omega;rcases hb with hb | rfl
 exact⟨.inl (by rw[h2];exact hb),by have:=hBs g' i hb;omega⟩;exact⟨.inr (Nat.le_refl _),by omega⟩
def WE.run(hm:P.follows .mixedOrders=true)(hk:Wi E){c:Code}(l:List (PC P G)){e:AX}{fr2:List AV}{s2:AS}(h:xO fr2 (TK P G 300 c [] (pHs l) fr s)=some (e,nB l,fr2,s2))(hp:∀v,e≠.pan v)(hq:Q e fr2 s2 E):WE P G E c fr s Q:=by
 unfold xO at h;split at h;rename_i e' cd fr' s' hr;simp only[Option.some.injEq,Prod.mk.injEq] at h;obtain⟨rfl,rfl,hfr,rfl⟩:=h;have hw:W P G (XS P G) H0 c fr s (λe2 f2 s2=>e2=e'/\f2=fr'/\s2=s'):=Ac 300 l _ _ _ _ hr (Pu l) ⟨rfl,rfl,rfl⟩;obtain⟨e1,f1,s1,hj,rfl,rfl,rfl⟩:=hw;have hS:=sound (TJ hm) hj;intro cx w a K hE hs hf hd hK;refine hS cx w a K hs hf hd ?_;rintro e'' a' w' ⟨c',hx,hs',SP,h4⟩;refine hK _ _ _ E hq c' w' a' e'' (hk _ _ _ _ hE hx) hs' SP ?_;rw[<- hfr];cases e1 with
 | normal=>exact⟨h4.1,SD h4.2⟩
 | exit id=>exact⟨h4.1,SD h4.2⟩
 | ret=>exact⟨h4.1,SD h4.2⟩
 | pan v=>exact absurd rfl (hp v)
 cases h
end
end AI
namespace AI
open Go Go.RowKit
section
variable {P:Program} {G:Bc} {E:EW} {fr:List AV} {s:AS} {Q:QE}
def WE.wk{c:Code}{fr2:List AV}(h:wkF fr fr2=fr2)(k:WE P G E c fr2 s Q):WE P G E c fr s Q:=λcx w a K hE hs hf hd hK=>k cx w a K hE hs (by rw[<- h];exact SD hf) hd hK
def WE.xL{c:Code}{id:Nat}{b b2:Bl}(hb:look id s.h=some b)(hk:∀(cx:Cx) (w:World) (o:Obj),FE cx w b o->FE cx w b2 o)(k:WE P G E c fr ⟨uJ id b2 s.h,s.nx,s.F,s.nr⟩ Q):WE P G E c fr s Q:=λcx w a K hE hs hf hd hK=>k cx w a K hE (hs.xL hb (λo ho=>hk cx w o ho)) hf hd hK
def Uo.q(hm:P.follows .mixedOrders=true)(hk:Wi E){c:Code}{n i:Nat}{l:List Nat}(hr:fC c n=true)(hi:i < n)(v:AV)(hw:CC (IM c) fr (opAt c i)=true)(h:QC P G fr s (opAt c i)=some (.val v s))(t:Uo P G E (IM c) l (Jw fr (opAt c i).dst v) s Q):Uo P G E (IM c) (i::l) fr s Q :=
 .op hm hk v (P9 hr hi) (.Oa hw h) t
def Uo.hb(hm:P.follows .mixedOrders=true)(hk:Wi E){c:Code}{n i:Nat}{l:List Nat}(hr:fC c n=true)(hi:i < n){B:Bool}(b:Bool)(hB:B=b)(h:aH P G (IM c) fr s (opAt c i) [.b b]=some (.sc (.bool b),s,[],[.eqb B b]))(t:Uo P G E (IM c) l (Jw fr (opAt c i).dst (.sc (.bool b))) s Q):Uo P G E (IM c) (i::l) fr s Q :=
 .op hm hk (.sc (.bool b)) (P9 hr hi) (Pn h ⟨hB,trivial⟩) t
def Uo.hi(hm:P.follows .mixedOrders=true)(hk:Wi E){c:Code}{n i:Nat}{l:List Nat}(hr:fC c n=true)(hi:i < n){X:Int}(z:Int)(hX:X=z)(h:aH P G (IM c) fr s (opAt c i) [.i z]=some (.sc (.int .i64 z),s,[],[.eqi X z]))(t:Uo P G E (IM c) l (Jw fr (opAt c i).dst (.sc (.int .i64 z))) s Q):Uo P G E (IM c) (i::l) fr s Q :=
 .op hm hk (.sc (.int .i64 z)) (P9 hr hi) (Pn h ⟨hX,trivial⟩) t
def WE.mono{c:Code}{Q2:QE}(h:WE P G E c fr s Q2)(hq:∀e fr' s' E',Q2 e fr' s' E'->Q e fr' s' E'):WE P G E c fr s Q:=λcx w a K hE hs hf hd hK=>h cx w a K hE hs hf hd (λe fr s E h2=>hK e fr s E (hq _ _ _ _ h2))
end
end AI
namespace AI
open Go Go.RowKit
end AI
namespace AI
open Go Go.RowKit
end AI
namespace AI
open Go Go.RowKit
section
variable {P:Program} {G:Bc} {α δ:Type} {enc:α->AV} {encd:δ->AV}
abbrev IY(enc:α->AV)(encd:δ->AV):α⊕δ->CR
 | .inl a=>.ret (enc a)
 | .inr d=>.pan (encd d)
def QF(P:Program)(G:Bc)(fn:Func)(m:Nat)(s0:AS)(enc:α->AV)(encd:δ->AV)(Q:AX->List AV->AS->Prop)(y:α⊕δ)(s2:AS):Prop:=match y with
 | .inl a=>RE P G fn m s0 Q (enc a) s2
 | .inr d=>Tz G m s0 Q (encd d) s2
def QF.body{fn:Func}{m:Nat}{s0 s2:AS}{y:α⊕δ}:QF P G fn m s0 enc encd (UD P fn m (QM G s0 (IY enc encd y) s2)) y s2:=by
 cases y with
 | inl a=>exact RE.body
 | inr d=>exact Tz.body
def QF.outer{fn:Func}{m id:Nat}{ks:List KI}{s0 s2:AS}{Q:AX->List AV->AS->Prop}{y:α⊕δ}(h:QF P G fn m s0 enc encd Q y s2):QF P G fn m s0 enc encd (EM id (Ee P G ks Q)) y s2:=by
 cases y with
 | inl a=>exact RE.outer h
 | inr d=>exact Tz.outer h
def QF.Gb{fn:Func}{m:Nat}{L:Code}{s0 s1 s2:AS}{Q:AX->List AV->AS->Prop}{y:α⊕δ}(h:QF P G fn m s0 enc encd Q y s2):QF P G fn m s0 enc encd (Ua P G L s1 Q) y s2:=by
 cases y with
 | inl a=>exact RE.Gb h
 | inr d=>exact Tz.Gb h
def anU(n m0:Nat)(m:Nat)(qM bs:List AV)(cs:List (Option Bl)):HR->Option (List Cd×List AV×AS×List AV×List (Option Bl))
 | some (.fin (.pan v),[],cd,_,s)=>(match afY qM n m0 [v] (s.cut m) bs cs with
     | some (fr2,s2,as,cas)=>some (cd,fr2,s2,as,cas)
     | none=>none)
 | _=>none
def BL(hG:∀g cs,G g=some cs->BN cs=true){r:HR}{X:Prop}{s0:AS}{Q:AX->List AV->AS->Prop}(m:Nat){l:List (PC P G)}(fps:List (FP s0.nx s0.nr))(Xj:List (FO s0.nx s0.nr)){v:AV}{s2:AS}(R:VB P G l Q r X)
   (h:anU s0.nx s0.nr m [v] (mW fps) (oB Xj) r=some (nB l,[v],s2,rR fps,zQ Xj)) (k:Tz G m s0 Q v s2):X:=by
 unfold anU at h;split at h;split at h;rename_i h1;simp only[Option.some.injEq,Prod.mk.injEq] at h;obtain⟨rfl,rfl,rfl,rfl,rfl⟩:=h;exact R _ _ _ _ rfl (Pu l) (k _ _ (fF hG h1) _ _ rfl);cases h;cases h
def Mu{k j:Nat}{ρ σ:Nat->Nat}(h1:∀a,plain (enc a)=true)(h2:∀d,plain (encd d)=true)(y:α⊕δ):RnR k j ρ σ (IY enc encd y) (IY enc encd y):=by
 cases y with
 | inl a=>exact .pl (h1 a)
 | inr d=>exact .pl (h2 d)
def Tc{γ:Type}{f:α->Option γ}{g:δ->Option γ}{y:α⊕δ}{r:γ}{X:Prop}(h1:∀a,y=.inl a->f a=some r->X)(h2:∀d,y=.inr d->g d=some r->X):Sum.elim f g y=some r->X:=by
 cases y with
 | inl a=>exact h1 a rfl
 | inr d=>exact h2 d rfl
def Rk.ixa{α:Type}{f:α->List AV}{C:List α->List AV}{k:Nat}(h:Rk f C k){t elem len:Nat}(hu:P.underlying t=some (.array len elem))(hs:(P.info? elem).map (·.size)=some k){l:List α}(hl:l.length=len){z:Int}{x:α}(hx:Hu l z=some x):Dw P t (.el (C l)) (.sc (.int .i64 z))=some (.el (f x++C (l.drop (z.toNat+1)))):=by
 unfold Hu at hx;split at hx
 · rename_i hz
   have hi:=(List.getElem?_eq_some_iff.1 hx).1
   have hn:S2 (.sc (.int .i64 z))=some z.toNat:=by
     unfold S2;simp[hz]
   cases he:P.info? elem with
   | none=>rw[he] at hs;cases hs
   | some e =>
     rw[he] at hs;have hk:e.size=k:=by simpa using hs
     subst hl;unfold Dw;rw[hu,hn];simp only[he,hk,if_pos hi];rw[h.eq,h.eq,bD h.len hx]
 cases hx
def aEF(z:List NZ)(qM:List AV):HR->Option (AX×List Cd×List AV×AS)
 | some (.fin e,[],cd,fr,s)=>(match nzs z fr s with
   | some (fr2,s2)=>some (e,cd,wkF fr2 qM,s2)
   | none=>none)
 | _=>none
def El{r:HR}{X:Prop}{L:Code}{s0:AS}{Q:AX->List AV->AS->Prop}{l:List (PC P G)}(z:List NZ){fr2:List AV}{s2:AS}(R:VB P G l (Ua P G L s0 Q) r X)(h:aEF z fr2 r=some (.normal,nB l,fr2,s2))(k:WL P G (XS P G) H0 L fr2 s2 Q):X:=by
 unfold aEF at h;split at h;split at h;rename_i fr3 s3 hz;simp only[Option.some.injEq,Prod.mk.injEq] at h;obtain⟨rfl,rfl,h3,rfl⟩:=h;refine R _ _ _ _ rfl (Pu l) ⟨_,_,λcx w c' w' vs hx _ hs' hr=>?_,k⟩;obtain⟨c2,x2,Xx,r2⟩:=pH hz c' w' vs hs' hr;exact⟨c2,hx.trans x2,Xx,h3▸SD r2⟩;cases h;cases h
def Du{M X:Prop}{L:Code}{fr:List AV}{s:AS}{Q:AX->List AV->AS->Prop}(TL:WL P G (XS P G) H0 L fr s Q->X)(k:M->W P G (XS P G) H0 L fr s (Ua P G L s Q)):M->X:=λh=>TL (cO (k h))
def eE{M X Y:Prop}(TL:Y->X)(k:M->Y):M->X:=λh=>TL (k h)
def avF{t:TypeId}{x y:ByteArray}(h:x.data.toList.length+y.data.toList.length<=9223372036854775807)(ox oy:Operand):LP P .add t ox oy (.sc (.string x)) (.sc (.string y))=some (.sc (.string (x++y))):=by
 have h0:Rl P .add t ox oy (.sc (.string x)) (.sc (.string y))=some (.sc (.string (x++y))):=by
   unfold Rl nL;simp only[if_pos h,Option.bind_some,Uz];rfl
 unfold LP;simp only[h0,aaL]
def ayX{t tx:TypeId}{a b v:AV}(h:∀s:AS,Cd.ok P G (.Wk s t tx a b v s)):PC P G:=⟨.af v,[.apf t tx a b v],⟨h,trivial⟩⟩
def ppn:PC P G:=⟨.p .any ⟨[],0,[],0⟩,[],trivial⟩
def pzq(c:Nat):PC P G:=⟨.zq c,[],trivial⟩
def anW{f:FuncId}{args Wo:List AV}{v:AV}{pre:List (Nat×Bl)}{tp:List (Nat×Nat)}{Rc:List (Nat×Bl)}{tu:List (Nat×Nat)}(w:Wn args Wo)(h:Cd.ok P G (.E7 f Wo (.pan v) pre tp Rc tu)):PC P G :=
 ⟨.q v pre tp Rc tu,[.E7 f args (.pan v) pre tp Rc tu,.zM (OF pre) (OF pre) (O7 tp) (O7 tp)],⟨λs h1 h2 cx wd vs hs ha=>h s h1 h2 cx wd vs hs (w.ok ha),⟨rfl,rfl⟩,trivial⟩⟩
end
end AI
namespace AI
open Go
section
variable {α γ δ ρ:Type}
def allI(p:Nat->α->Bool):List α->Nat->Bool
 | [],_=>true
 | y::l,i=>p i y&&allI p l (i+1)
def iU{body:Nat->α->Unit->Option (Lp Unit δ ρ)}{done:Unit->δ}{p:Nat->α->Bool}{v:ρ}:∀{l:List α} {i:Nat},(∀k y,l[k]?=some y->body (i+k) y ()=some (if p (i+k) y then .nx () else .rt v))->CL body done l i ()=some (if allI p l i then .inl (done ()) else .inr v)
 | [],i,_=>rfl
 | y::l,i,h=>by
   have h0:=h 0 y rfl;rw[Nat.add_zero] at h0;rw[CL,h0,allI];cases p i y with
   | false=>simp[PW]
   | true =>
     have:=iU (body:=body) (done:=done) (p:=p) (v:=v) (l:=l) (i:=i+1) λk z hz=>by
       have:=h (k+1) z (by simpa using hz)
       rwa[show i+(k+1)=i+1+k by omega] at this
     simpa[PW] using this
def Pq{β:Type}{n:Nat}{x:Option β}(h:n<=9223372036854775807):Rt n x=x:=by unfold Rt;rw[if_pos h]
def Ff{β:Type}{n:Nat}{x:Option β}(h:n<=100000000):MH n x=x:=by unfold MH;rw[if_pos h]
end
end AI
namespace AI
open Go
def mb(p:Prop):Bool:=@decide p (Classical.propDecidable _)
def C4{p:Prop}:mb p=true↔p:=by unfold mb;exact @decide_eq_true_iff p (_)
def MI{p q:Prop}(h:p↔q):mb p=mb q:=by rw[propext h]
def Kv{β:Type}(p:Prop)(x y:β):β:=@ite β p (Classical.propDecidable _) x y
def Cv{β:Type}{p:Prop}{x y:β}(h:p):Kv p x y=x:=@if_pos p (_) h _ _ _
def Cy{β:Type}{p:Prop}{x y:β}(h:¬p):Kv p x y=y:=@if_neg p (_) h _ _ _
section
variable {β:Type} {x y:β}
def aJA(a b:Int):cond (CV a b) x y=Kv (a=b) x y:=by
 by_cases h:a=b;have:CV a b=true:=by rw[NY];simpa using h
 rw[Cv h,this];rfl;have:CV a b=false:=by rw[NY];simpa using h
 rw[Cy h,this];rfl
def L4(p:Prop):cond (mb p) x y=Kv p x y:=by
 by_cases h:p;rw[Cv h,C4.2 h];rfl;rw[Cy h]
 have:mb p=false:=by
   cases hm:mb p;rfl;exact absurd (C4.1 hm) h
 rw[this];rfl
end
section
variable {p q r:Prop}
def jO:Kv p (some true) (some false)=some (mb p):=by
 by_cases h:p;rw[Cv h,C4.2 h];rw[Cy h];congr 1;cases hm:mb p;rfl;exact absurd (C4.1 hm) h
def ayE:Kv p (some (mb q)) (some false)=some (mb (p/\q)):=by
 by_cases h:p;rw[Cv h];congr 1;rw[Bool.eq_iff_iff,C4,C4];simp[h];rw[Cy h];congr 1;rw[Bool.eq_iff_iff,C4];simp[h]
def aMA:Kv p (some false) (some (mb q))=some (mb (¬p/\q)):=by
 by_cases h:p;rw[Cv h];congr 1;rw[Bool.eq_iff_iff,C4];simp[h];rw[Cy h];congr 1;rw[Bool.eq_iff_iff,C4,C4];simp[h]
def ayF:Kv p (some true) (some (mb q))=some (mb (p\/q)):=by
 by_cases h:p;rw[Cv h];congr 1;rw[Bool.eq_iff_iff,C4];simp[h];rw[Cy h];congr 1;rw[Bool.eq_iff_iff,C4,C4];simp[h]
def ck{δ ρ:Type}(v:ρ)(p:Prop):Lp Unit δ ρ:=Kv p (.nx ()) (.rt v)
variable {δ ρ:Type} {v:ρ}
def aDH:Kv p (some (.nx ())) (some (.rt v))=some (ck (δ:=δ) v p):=by
 unfold ck;by_cases h:p;rw[Cv h,Cv h];rw[Cy h,Cy h]
def amY:Kv p (some (.rt v)) (some (.nx ()))=some (ck (δ:=δ) v ¬p):=by
 unfold ck;by_cases h:p;rw[Cv h,Cy (by simp[h])];rw[Cy h,Cv h]
def axW:Kv p (some (ck (δ:=δ) v q)) (some (.rt v))=some (ck v (p/\q)):=by
 unfold ck;by_cases h:p;rw[Cv h];simp[h];rw[Cy h,Cy (by simp[h])]
def amZ:Kv p (some (.rt v)) (some (ck (δ:=δ) v q))=some (ck v (¬p/\q)):=by
 unfold ck;by_cases h:p;rw[Cv h,Cy (by simp[h])];rw[Cy h];simp[h]
def axV:Kv p (some (ck (δ:=δ) v q)) (some (.nx ()))=some (ck v (p->q)):=by
 unfold ck;by_cases h:p;rw[Cv h];simp[h];rw[Cy h,Cv (by simp[h])]
def aLX:Kv p (some (.nx ())) (some (ck (δ:=δ) v q))=some (ck v (p\/q)):=by
 unfold ck;by_cases h:p;rw[Cv h,Cv (by simp[h])];rw[Cy h];simp[h]
def aLY:Kv p (some (ck (δ:=δ) v q)) (some (ck v r))=some (ck v ((p->q)/\(¬p->r))):=by
 unfold ck;by_cases h:p;rw[Cv h];simp[h];rw[Cy h];simp[h]
def eH{α β:Type}{l:List α}{body:Nat->α->Unit->Option (Lp Unit Unit ρ)}{P:Nat->α->Prop}{k:Unit->Option β}{kr:ρ->Option β}(hl:l.length<=9223372036854775807)(hb:∀i y,l[i]?=some y->body i y ()=some (ck v (P i y))):(Rt l.length (CL body (λ_=>()) (l.drop 0) 0 ())).bind (LZ k kr)=Kv (∀i y,l[i]?=some y->P i y) (k ()) (kr v):=by
 rw[Pq hl,List.drop_zero]
 have h1:∀k y,l[k]?=some y->body (0+k) y ()=some (if mb (P (0+k) y) then .nx () else .rt v):=λk y hy=>by
   rw[Nat.zero_add,hb k y hy];unfold ck;by_cases h:P k y;rw[Cv h,if_pos (C4.2 h)];rw[Cy h,if_neg (λe=>h (C4.1 e))]
 rw[iU (p:=λi y=>mb (P i y)) (v:=v) h1]
 have h2:∀(l:List α) (i:Nat),allI (λi y=>mb (P i y)) l i=true↔∀k y,l[k]?=some y->P (i+k) y:=by
   intro l
   induction l with
   | nil=>intro i;simp[allI]
   | cons a l ih =>
     intro i;rw[allI,Bool.and_eq_true,C4,ih];constructor;rintro⟨h1,h2⟩ k y hk;cases k with
     | zero=>simp at hk;subst hk;exact h1
     | succ k=>rw[show i+(k+1)=i+1+k by omega];exact h2 k y (by simpa using hk)
     intro h;refine⟨h 0 a rfl,λk y hk=>?_⟩;rw[show i+1+k=i+(k+1) by omega];exact h (k+1) y (by simpa using hk)
 have h3:=h2 l 0;simp only[Nat.zero_add] at h3;by_cases h:∀i y,l[i]?=some y->P i y;rw[Cv h,h3.2 h];rfl;rw[Cy h]
 have:allI (λi y=>mb (P i y)) l 0=false:=by
   cases ha:allI (λi y=>mb (P i y)) l 0;rfl;exact absurd (h3.1 ha) h
 rw[this];rfl
end
end AI
namespace AI
open Go
def Sp{β:Type}(o:Option β)(Q:β->Prop):Prop:=∃r,o=some r/\Q r
section
variable {α β γ δ ρ κ:Type} {Q:β->Prop}
def Uw{r:β}:Sp (some r) Q=Q r:=propext ⟨λ⟨_,h,k⟩=>by cases h;exact k,λh=>⟨_,rfl,h⟩⟩
def qY{o:Option κ}{k:κ->Option β}:Sp (o.bind k) Q=Sp o (λy=>Sp (k y) Q):=propext ⟨λ⟨r,h,hq⟩=>by
 obtain⟨y,h1,h2⟩:=cY h;exact⟨y,h1,r,h2,hq⟩,λ⟨y,h1,r,h2,hq⟩=>⟨r,by rw[h1];exact h2,hq⟩⟩
def Sp.mono{Q':β->Prop}{o:Option β}(h:Sp o Q)(k:∀r,Q r->Q' r):Sp o Q':=h.elim λr h=>⟨r,h.1,k r h.2⟩
def asC{o:Option β}{r:β}:(o=some r)=Sp o (λx=>x=r):=propext ⟨λh=>⟨r,h,rfl⟩,λ⟨_,h,k⟩=>by rw[h,k]⟩
def nG{p:Prop}{x y:Option β}:Sp (Kv p x y) Q=((p->Sp x Q)/\(¬p->Sp y Q)):=propext (by
 by_cases h:p;rw[Cv h];exact⟨λa=>⟨λ_=>a,λn=>absurd h n⟩,λa=>a.1 h⟩;rw[Cy h];exact⟨λa=>⟨λn=>absurd n h,λ_=>a⟩,λa=>a.2 h⟩)
def QS(a b:Int):Nv a b=mb (a<=b):=by rw[YI,Bool.eq_iff_iff,C4,decide_eq_true_iff]
def N8(a b:Int):Et a b=mb (a < b):=by rw[Sg,Bool.eq_iff_iff,C4,decide_eq_true_iff]
def Lr(a b:Int):CV a b=mb (a=b):=by rw[NY,Bool.eq_iff_iff,C4,beq_iff_eq]
def R8(a b:ByteArray):BY a.data.toList b.data.toList=mb (a=b):=by
 rw[TG,Bool.eq_iff_iff,C4,beq_iff_eq];exact⟨λh=>ByteArray.ext (Array.ext' h),λh=>by rw[h]⟩
def YQ{p:Prop}:(mb p=true)=p:=propext C4
def WD{p:Prop}:(mb p=false)=¬p:=by rw[<- Bool.not_eq_true,YQ]
def qQ{p:Prop}:(true=mb p)=p:=by rw[@eq_comm _ true,YQ]
def Wp{p:Prop}:(false=mb p)=¬p:=by rw[@eq_comm _ false,WD]
def smb{p q:Prop}(h:p↔q):some (mb p)=some (mb q):=by rw[MI h]
def fM{p:Prop}(h:¬p):some false=some (mb p):=congrArg some (by rw[Wp];exact h)
def akP{l:List α}{body:Nat->α->γ->Option (Lp γ δ ρ)}{done:γ->δ}{k:δ->Option β}{kr:ρ->Option β}{x0:γ}(I:Nat->γ->Prop)(hl:l.length<=9223372036854775807)(h0:I 0 x0)
   (hb:∀i y x,l[i]?=some y->I i x->Sp (body i y x) (RQ (I (i+1)) (λd=>Sp (k d) Q) (λv=>Sp (kr v) Q)))
   (hz:∀x,I l.length x->Sp (k (done x)) Q):Sp ((Rt l.length (CL body done (l.drop 0) 0 x0)).bind (LZ k kr)) Q:=by
 rw[Pq hl,List.drop_zero]
 have key:∀(m:List α) (i:Nat) (x:γ),l.drop i=m->i<=l.length->I i x->Sp ((CL body done m i x).bind (LZ k kr)) Q:=by
   intro m
   induction m with
   | nil =>
     intro i x hd hle hi;have h1:=List.drop_eq_nil_iff.1 hd;have:i=l.length:=by omega
     subst this;exact hz x hi
   | cons y m ih =>
     intro i x hd hle hi
     have hlt:i < l.length:=by
       rcases Nat.lt_or_ge i l.length with h1 | h1
       exact h1;rw[List.drop_eq_nil_of_le h1] at hd;cases hd
     have hy:l[i]?=some y:=by rw[<- List.head?_drop,hd];rfl
     have hd2:l.drop (i+1)=m:=by rw[<- List.tail_drop,hd];rfl
     obtain⟨r,hr,hq⟩:=hb i y x hy hi;rw[CL,hr];cases r with
     | nx x'=>exact ih (i+1) x' hd2 hlt hq
     | ex d=>exact hq
     | rt v=>exact hq
 exact key l 0 x0 rfl (Nat.zero_le _) h0
def aAT{Qn:γ->Prop}{Qx:δ->Prop}{Qr:ρ->Prop}{x:γ}:RQ Qn Qx Qr (.nx x)=Qn x:=rfl
def aAS{Qn:γ->Prop}{Qx:δ->Prop}{Qr:ρ->Prop}{x:δ}:RQ Qn Qx Qr (.ex x)=Qx x:=rfl
end
def ZA{n:Int}(h:-9223372036854775808<=n/\n<=9223372036854775807):Nl .i64 n=n:=by
 rw[Vr];exact IntWalk.i64_in n (by omega)
def CJ{a b:Int}(h:-9223372036854775808<=a+b/\a+b<=9223372036854775807):Bt a b=a+b:=by
 unfold Bt;rw[cQ,ZA h]
def KP{a b:Int}(h:-9223372036854775808<=a - b/\a - b<=9223372036854775807):LV a b=a - b:=by
 unfold LV;rw[fO,ZA h]
def IQ{a b:Int}(h:-9223372036854775808<=a*b/\a*b<=9223372036854775807):BQ a b=a*b:=by
 unfold BQ;rw[ZA h]
end AI
namespace AI
open Go Go.RowKit
def ZW(w w1:World)(g:Nat):Prop:=w.heap.size<=g/\g < w1.heap.size
def Cx.Z4(cx:Cx)(w w1:World):Cx:=⟨cx.base,cx.Dv,cx.rows,λg i=>cx.bad g i\/ZW w w1 g⟩
def Cx.V7(c:Cx)(cx:Cx):Cx:=⟨c.base,c.Dv,c.rows,cx.bad⟩
section
variable {G:Bc} {cx:Cx} {w w1:World} {s:AS}
def Vn(k:SF w w1 (λ_=>False)):Mon cx w (cx.Z4 w w1) w1:=by
 refine⟨λ_ _ e=>e,Nat.le_refl _,λr y _ h=>⟨y,h,Ld.refl y⟩,λg i v hv=>⟨Nat.lt_of_lt_of_le hv.1 k.size,λhs=>?_,by rw[k.cell hv.1 id];exact hv.2.2⟩⟩;rcases hs with hs | hs | hs | hs
 exact hv.2.1 (.inl hs);exact hv.2.1 (.inr (.inl hs));exact hv.2.1 (.inr (.inr hs));have:=hs.1;have:=hv.1;omega
def uS(h:St G cx w s)(k:SF w w1 (λ_=>False)):St G (cx.Z4 w w1) w1 s:=by
 have m:=Vn (cx:=cx) k;refine⟨h.len,h.desc,h.nodup,h.low,λid g b h1 h2=>?_,h.JY,λr g n cap sz hr=>?_,h.Ko,λg hg=>Nat.lt_of_lt_of_le (h.ON g hg) k.size,λg i hb=>?_,h.JU,λg cs hg=>(h.Pm g cs hg).Dy m,Nat.le_trans h.R2 k.size⟩;obtain⟨o,ho,hb⟩:=h.box id g b h1 h2;exact⟨o,by rw[k.block g (Array.getElem?_eq_some_iff.1 ho).1 not_false];exact ho,hb.Dy m⟩;have hl:=h.Q6 hr;obtain⟨Ns,h2,h3,h4,vs,T,ho,h5⟩:=h.row r g n cap sz hr;refine⟨λi hb=>?_,h2,h3,h4,vs,T,by rw[k.block g (Array.getElem?_eq_some_iff.1 ho).1 not_false];exact ho,h5⟩;rcases hb with hb | hb
 exact Ns i hb;have:=hb.1;omega;rcases hb with hb | hb
 exact Nat.lt_of_lt_of_le (h.OH g i hb) k.size;exact hb.2
variable {c':Cx} {w' w2:World} {s':AS}
def Ub(hx:Ext (cx.Z4 w w1) w1 c' w')(k2:SF w' w2 (ZW w w1)):Mon c' w' (c'.V7 cx) w2:=by
 refine⟨λ_ _ e=>e,Nat.le_refl _,λr y _ h=>⟨y,h,Ld.refl y⟩,λg i v hv=>⟨Nat.lt_of_lt_of_le hv.1 k2.size,λhs=>?_,?_⟩⟩;rcases hs with hs | hs | hs
 exact hv.2.1 (.inl hs);exact hv.2.1 (.inr (.inl hs));exact hv.2.1 (.inr (.inr (by rw[hx.bad];exact .inl hs)));rw[k2.cell hv.1 (λhk=>hv.2.1 (.inr (.inr (by rw[hx.bad];exact .inr hk))))];exact hv.2.2
def Zp(h:St G cx w s)(k:SF w w1 (λ_=>False))(hx:Ext (cx.Z4 w w1) w1 c' w')(k2:SF w' w2 (ZW w w1)):Ext cx w (c'.V7 cx) w2:=by
 have m:=Vn (cx:=cx) k;have m2:=Ub hx k2;refine⟨hx.Dv,hx.JY,hx.rows,λg i v hv=>m2.fU g i v (hx.fU g i v (m.fU g i v hv)),?_,hx.base,rfl,λg hg=>?_,λr g n cap sz hr=>?_,λq hq hp hr=>?_⟩;have b1:Below cx.base w w1:=k.below h.R2 (λ_ h=>h.elim);have b2:Below cx.base w1 w':=hx.below;have b3:Below cx.base w' w2:=k2.below (Nat.le_trans (Nat.le_trans h.R2 k.size) b2.size) (λq hq=>Nat.le_trans h.R2 hq.1);exact(b1.trans b2).trans b3;rcases hx.kD g hg with h1 | h1
 exact .inl h1;exact .inr (Nat.le_trans k.size h1);rcases hx.kS r g n cap sz hr with h1 | h1
 exact .inl h1;exact .inr (Nat.le_trans k.size h1);have hq1:q < w1.heap.size:=Nat.lt_of_lt_of_le hq k.size;rw[k2.block q (Nat.lt_of_lt_of_le hq1 hx.below.size) (λhn=>by have:=hn.1;omega),hx.UU q hq1 hp hr,k.block q hq not_false]
def bR(h:St G cx w s)(hx:Ext (cx.Z4 w w1) w1 c' w')(hs':St G c' w' s')(k2:SF w' w2 (ZW w w1)):St G (c'.V7 cx) w2 s':=by
 have m2:=Ub hx k2
 have TN:∀g,some g∈c'.Dv->¬ZW w w1 g:=by
   intro g hg hn;rcases hx.kD g hg with h1 | h1
   have:=h.ON g h1;have:=hn.1;omega;have:=hn.2;omega
 refine⟨hs'.len,hs'.desc,hs'.nodup,hs'.low,λid g b h1 h2=>?_,hs'.JY,λr g n cap sz hr=>?_,hs'.Ko,λg hg=>Nat.lt_of_lt_of_le (hs'.ON g hg) k2.size,λg i hb=>Nat.lt_of_lt_of_le (hs'.OH g i (by rw[hx.bad];exact .inl hb)) k2.size,hs'.JU,λg cs hg=>(hs'.Pm g cs hg).Dy m2,Nat.le_trans hs'.R2 k2.size⟩;obtain⟨o,ho,hb⟩:=hs'.box id g b h1 h2;exact⟨o,by rw[k2.block g (Array.getElem?_eq_some_iff.1 ho).1 (TN g (List.mem_of_getElem? h1))];exact ho,hb.Dy m2⟩;obtain⟨Ns,h2,h3,h4,vs,T,ho,h5⟩:=hs'.row r g n cap sz hr;have hb:c'.bad=λg i=>cx.bad g i\/ZW w w1 g:=hx.bad;exact⟨λi WU=>Ns i (by rw[hb];exact .inl WU),h2,h3,h4,vs,T,by rw[k2.block g (Array.getElem?_eq_some_iff.1 ho).1 (λhn=>Ns 0 (by rw[hb];exact .inr hn))];exact ho,h5⟩
def NQ(h:St G cx w s)(hx:Ext (cx.Z4 w w1) w1 c' w'){q:Nat}(hq:ZW w w1 q):w'.heap[q]?=w1.heap[q]?:=by
 refine hx.UU q hq.2 (λhm=>?_) (λr n cap sz hr=>?_);have:=h.ON q hm;have:=hq.1;omega;have:=h.Q6 (r:=r) hr;have:=hq.1;omega
end
end AI
