/- Part of a proof: see the last text. -/
import Derived.Test.YtpbkhogolfegfaaGreatDoorPnf
import Derived.Laws.StructEq
set_option linter.unusedVariables false
set_option linter.unusedSimpArgs false
set_option linter.defProp false
noncomputable section
open Array renaming ext'->bjQ,getElem?_eq_some_iff->aOA,length_toList->bjF
open Bool renaming and_eq_true->bcA,false_eq_true->biT
open Classical renaming axiomOfChoice->bqD,choose->bmW,choose_spec->blB
open Go.Builtin renaming append_->blK,firstCells->bkE,zeroCells->bjN
open Go.Op renaming eqFields->bpL,equalIn->bnE
open Go.Oper renaming wp->boB
open Go.Region renaming wanted->bkX
open Go.Result renaming andThen_ok->biS
open Go.Sem renaming run_bind->biV,run_pure->bjX
open List renaming all_eq_true->bkN,append_assoc->atS,append_nil->bcB,cons_append->bcE,drop_append->bqB,drop_eq_nil_of_le->bjL,eq_nil_of_length_eq_zero->biP,getD_eq_getElem?_getD->bkG,getElem?_append_left->bcF,getElem?_append_right->bjY,getElem?_eq_getElem->abI,getElem?_eq_none->bkC,getElem?_eq_some_iff->abH,getElem?_map->biU,getElem?_range->bmG,getElem?_toArray->blH,head?_drop->bmM,length->blU,length_append->V5,length_cons->Yy,length_drop->biR,length_map->bjC,length_nil->aOD,length_take->bjG,map_append->bjS,map_cons->bjM,mem_cons->biX,mem_cons_of_mem->bjI,mem_cons_self->bjW,mem_iff_getElem?->boI,mem_of_getElem?->bcH,mem_of_mem_take->bkL,nil_append->bcJ,prefix_append->bnT,range->bjR,replicate->bkT,set_eq_take_append_cons_drop->bnV,size_toArray->bkR,tail_drop->boE,take_append->brL,take_append_drop->blX,take_left'->bqJ,take_of_length_le->blS
open List.cons renaming injEq->bnR
open Nat renaming add_mul->blG,add_zero->bkH,beq->bjO,beq_refl->bmB,ble->bmR,le_of_ble_eq_true->bcG,le_refl->aOC,le_trans->bjH,lt_of_lt_of_le->bcC,lt_succ_self->bkM,mul_le_mul->bpF,mul_le_mul_right->blO,mul_one->bpM,sub_zero->bnX,succ_mul->bnH,zero_add->bcD,zero_le->bkI
open Option renaming bind_some->NF,map_eq_some_iff->bkK,map_some->biQ
open Option.some renaming inj->bjE,injEq->aOE
open Prod.mk renaming injEq->biY
namespace AI
open Go Go.RowKit
inductive Wn:List AV->List AV->Prop where
 | nil:Wn [] []
 | r {a:AV} {l k:List AV} (t:Wn l k):Wn (a::l) (a::k)
 | s {o:Own} {n:Nat} {cs ds l k:List AV} (h:cs=ds) (t:Wn l k):Wn (.sl o n cs::l) (.sl .lost n ds::k)
 | d {o:Own} {n:Nat} {cs ds es l k:List AV} (h:Wn cs ds) (e:ds=es) (t:Wn l k):Wn (.sl o n cs::l) (.sl .lost n es::k)
 | g {cs ds l k:List AV} (h:Wn cs ds) (t:Wn l k):Wn (.agg cs::l) (.agg ds::k)
 | u {cs ds l k:List AV} (h:Wn cs ds) (t:Wn l k):Wn (.E9 cs::l) (.E9 ds::k)
def Wn.refl:∀l:List AV,Wn l l
 | []=>.nil
 | _::l=>.r (Wn.refl l)
def Wn.len{l k:List AV}(h:Wn l k):l.length=k.length:=by
 induction h with
 | nil=>rfl
 | r _ ih=>simp[ih]
 | s _ _ ih=>simp[ih]
 | d _ _ _ _ ih=>simp[ih]
 | g _ _ _ ih=>simp[ih]
 | u _ _ _ ih=>simp[ih]
section
variable {c:Cx} {w:World}
mutual
def Wn.ok:∀{l k:List AV},Wn l k->∀{vs:List Value},Cv c w l vs->Cv c w k vs
 | _,_,.nil,_,hr=>hr
 | _,_,.r t,_,hr=>by cases hr with | cons h1 t1=>exact .cons h1 (t.ok t1)
 | _,_,.s h t,_,hr=>by
   subst h;cases hr with
   | cons h1 t1 =>
     refine .cons ?_ (t.ok t1);cases h1 with
     | sl0 _=>exact .sl0 trivial
     | K6 hn hc ho=>exact .K6 hn hc trivial
 | _,_,.d h e t,_,hr=>by
   subst e;cases hr with
   | cons h1 t1 =>
     refine .cons ?_ (t.ok t1);cases h1 with
     | sl0 _=>cases h;exact .sl0 trivial
     | K6 hn hc ho=>exact .K6 hn (h.okC hc) trivial
 | _,_,.g h t,_,hr=>by
   cases hr with
   | cons h1 t1 =>
     refine .cons ?_ (t.ok t1);cases h1 with
     | agg h2=>exact .agg (h.ok h2)
 | _,_,.u h t,_,hr=>by
   cases hr with
   | cons h1 t1 =>
     refine .cons ?_ (t.ok t1);cases h1 with
     | E9 h2=>exact .E9 (h.ok h2)
def Wn.okC:∀{l k:List AV},Wn l k->∀{g o:Nat},A1 c w g o l->A1 c w g o k
 | _,_,.nil,_,_,hr=>hr
 | _,_,.r t,_,_,hr=>by cases hr with | cons hv h1 t1=>exact .cons hv h1 (t.okC t1)
 | _,_,.s h t,_,_,hr=>by
   subst h;cases hr with
   | cons hv h1 t1 =>
     refine .cons hv ?_ (t.okC t1);cases h1 with
     | sl0 _=>exact .sl0 trivial
     | K6 hn hc ho=>exact .K6 hn hc trivial
 | _,_,.d h e t,_,_,hr=>by
   subst e;cases hr with
   | cons hv h1 t1 =>
     refine .cons hv ?_ (t.okC t1);cases h1 with
     | sl0 _=>cases h;exact .sl0 trivial
     | K6 hn hc ho=>exact .K6 hn (h.okC hc) trivial
 | _,_,.g h t,_,_,hr=>by
   cases hr with
   | cons hv h1 t1 =>
     refine .cons hv ?_ (t.okC t1);cases h1 with
     | agg h2=>exact .agg (h.ok h2)
 | _,_,.u h t,_,_,hr=>by
   cases hr with
   | cons hv h1 t1 =>
     refine .cons hv ?_ (t.okC t1);cases h1 with
     | E9 h2=>exact .E9 (h.ok h2)
end
end
def Wn.WY{a b c d:List AV}(h:Wn a b)(k:Wn c d):Wn (a++c) (b++d):=by
 induction a generalizing b with
 | nil=>cases h;exact k
 | cons x a ih =>
   cases h with
   | r t=>exact .r (ih t)
   | s h t=>exact .s h (ih t)
   | d h e t=>exact .d h e (ih t)
   | g h t=>exact .g h (ih t)
   | u h t=>exact .u h (ih t)
def Rp.wnC{c:Cx}{w:World}{o:Own}{q:Nat}{cs ds:List AV}{u:Value}(h:Wn cs ds)(hr:Rp c w (.sl o q cs) u):Rp c w (.sl o q ds) u:=by
 cases hr with
 | sl0 h0=>cases h;exact .sl0 h0
 | K6 hn hc ho=>exact .K6 hn (h.okC hc) (by rw[<- h.len];exact ho)
def Fits.wn{n m:Nat}{a b:AV}(h:Wn [a] [b])(hp:AI.plain b=true):Fits n m a b:=λc w v hr=>by
 have:=h.ok (.cons hr .nil);cases this with
 | cons h1 _=>exact Fits.plain hp c w v h1
section
variable {P:Program} {G:AK}
def ahC(hm:P.follows .mixedOrders=true)(hG:∀g cs,G g=some cs->Bz cs=true){f:FuncId}{args:List AV}{v:AV}(h:WC P G (XS P G) H0 f args s0 (λr _=>∃a,r=.ret a/\Fits 0 0 a v))(hp:Bz args=true)(hv:plain v=true):Pure P G f args v:=by
 obtain⟨r,s',hj,a,rfl,hf⟩:=h;have hS:=sound (TU hm) hj;intro s cx w vs hs GB
 have IL:∀g i x,MD cx w g i x->MD ⟨w.heap.size,[],[],cx.lN⟩ w g i x:=by
   intro g i x hx;refine⟨hx.1,λGr=>?_,hx.2.2⟩;rcases Gr with Gr | ⟨r,n,cap,sz,hr,_⟩ | Gr
   cases Gr;simp at hr;exact hx.2.1 Gr
 have Fl:St G ⟨w.heap.size,[],[],cx.lN⟩ w s0 :=
   ⟨rfl,trivial,(λi j g h1=>by simp at h1),(λg hg=>by cases hg),(λid g b h1=>by simp at h1),rfl,(λr g n cap sz hr=>by simp at hr),(λr n hr=>by cases hr),(λg hg=>by cases hg),(λg i hb=>hs.WB hb),(λr r' g n cap sz n' cap' OL hr=>by simp at hr),(λg cs hg=>A1.plain IL (hG g cs hg) (hs.Mr g cs hg)),aOC _,hs.Ol.aRH⟩
 refine(hS _ w vs Fl (Cv.plain IL hp GB)).mono ?_;rintro e w' ⟨c',hx,_,u,rfl,hu⟩;have P8:=hx.below;obtain⟨x2,Yk⟩:=hs.same (w':=w') ⟨P8.os,P8.tape,P8.output,P8.size,λk hk _=>P8.block k hk⟩;refine⟨cx,x2,Yk,u,rfl,Rp.plain (c:=c'.upto 0 0) (λg i x wE=>⟨wE.1,λGr=>wE.2.1 (.inr (.inr ?_)),wE.2.2⟩) hv (hf _ _ _ hu)⟩;show c'.bad g i;rw[hx.bad];exact Gr
def cP(P:Program)(fn:Func)(m:Nat)(Q:AX->List AV->AS->Prop)(v:AV):Prop:=∀a s2,Fits 0 0 a v->Zq P fn m Q a s2
def cP.body{fn:Func}{m:Nat}{v:AV}:cP P fn m (S0 P fn m (λr _=>∃a,r=.ret a/\Fits 0 0 a v)) v:=λa _ h=>.body ⟨a,rfl,h⟩
def U3{δ J:Type}(Q:AX->List AV->AS->Prop)(id:Nat)(F:δ->J->List AV)(S:δ->J->AS)(Ok:J->Prop)(d:δ):Prop:=∀j,Ok j->Q (.exit id) (F d j) (S d j)
def aZK(P:Program)(fn:Func):HR->Option (List Cd×AV)
 | some (.fin .ret,[],cd,fr,s)=>(match F8 P s fn fr with
   | some v=>some (cd,v)
   | none=>none)
 | _=>none
def qG{r:HR}{X:Prop}{Q:AX->List AV->AS->Prop}{v w:AV}(fn:Func)(m:Nat){l:List (PC P G)}(R:K9 P G l Q r X)(h:aZK P fn r=some (T8 l,v))(k:cP P fn m Q w)(hf:Fits 0 0 v w):X:=by
 unfold aZK at h;split at h;rename_i cd fr' s';split at h;rename_i v' hv;simp only[aOE,biY] at h;obtain⟨rfl,rfl⟩:=h;exact R _ _ _ _ rfl (Pk l) (k _ _ hf _ _ hv rfl);cases h;cases h
def cP.rnd{fn:Func}{m:Nat}{L:Code}{s0:AS}{Q:AX->List AV->AS->Prop}{v:AV}(h:cP P fn m Q v):cP P fn m (I9 P G L s0 Q) v:=h
def H8{δ ρ β:Type}(k:δ->Option β)(kr:ρ->Option β):δ⊕ρ->Option β
 | .inl d=>k d
 | .inr v=>kr v
def pk:PC P G:=⟨.k,[],trivial⟩
def pb{B b:Bool}(h:B=b):PC P G:=⟨.b b,[.eqb B b],⟨h,trivial⟩⟩
def pn{B b:Bool}(h:B=b):PC P G:=⟨.b (!b),[.eqb (!B) (!b)],⟨by show(!B)=(!b);rw[h],trivial⟩⟩
def aQL{i:Nat}(h:i < 9223372036854775807):Ob .i64 (anF ((i:Nat):Int) 1)=((i+1:Nat):Int):=by
 rw[Nz,oW];have:=ayJ (i:=i+1) (by omega);rw[<- this];rfl
def bgF(i:Nat)(h:i < 9223372036854775807):PC P G:=⟨.i ((i+1:Nat):Int),[.eqi (Ob .i64 (anF ((i:Nat):Int) 1)) ((i+1:Nat):Int)],⟨aQL h,trivial⟩⟩
def At{f:FuncId}{args:List AV}{v:AV}(h:Pure P G f args v):PC P G:=⟨.w v,[.pur f args v],⟨h,trivial⟩⟩
def G9{f:FuncId}{args Zs:List AV}{v:AV}(w:Wn args Zs)(h:Pure P G f Zs v):PC P G:=⟨.w v,[.pur f args v],⟨λs cx wd vs hs ha=>h s cx wd vs hs (w.ok ha),trivial⟩⟩
def Fi{t:TypeId}{a b v:AV}(h:CO P t a b=some v):PC P G:=⟨.w v,[.idx t a b v],⟨h,trivial⟩⟩
def XU{t:TypeId}{a b v:AV}(h:LH P t a b=some v):PC P G:=⟨.w v,[.ix t a b v],⟨h,trivial⟩⟩
def A4{op:BinOp}{t:TypeId}{x y:Operand}{a b v:AV}(h:LG P op t x y a b=some v):PC P G:=⟨.w v,[.bin op t x y a b v],⟨h,trivial⟩⟩
def Q9{t:TypeId}{a:AV}{l h m:Option AV}{v:AV}(e:Mn P t a l h m=some v):PC P G:=⟨.o v,[.sli t a l h m v],⟨e,trivial⟩⟩
def Bh(a b:Int):Int:=Ob .i64 (anF a b)
def Ka(a b:Int):Int:=Ob .i64 (sJ a b)
def CK(a b:Int):Int:=Ob .i64 (a*b)
def F9{α:Type}(l:List α)(z:Int):Option α:=if 0<=z then l[z.toNat]? else none
structure Mi{α:Type}(f:α->List AV)(C:List α->List AV)(k:Nat):Prop where
 eq:∀l,C l=rows f l
 len:∀x,(f x).length=k
 pl:∀x,Bz (f x)=true
def Mi.WY{α:Type}{f:α->List AV}{C:List α->List AV}{k:Nat}(h:Mi f C k)(l m:List α):C (l++m)=C l++C m:=by rw[h.eq,h.eq,h.eq,QH]
def Mi.cons{α:Type}{f:α->List AV}{C:List α->List AV}{k:Nat}(h:Mi f C k)(x:α)(m:List α):C (x::m)=f x++C m:=by rw[h.eq,h.eq,Fv]
def Mi.Hj{α:Type}{f:α->List AV}{C:List α->List AV}{k:Nat}(h:Mi f C k)(l:List α):Bz (C l)=true:=by rw[h.eq];exact acZ λx _=>h.pl x
def Mi.tT{α:Type}{f:α->List AV}{C:List α->List AV}{k:Nat}(h:Mi f C k)(l:List α):plain (.sl .lost l.length (C l))=true:=by simp only[plain,h.Hj];rfl
def Mi.plG{α:Type}{f:α->List AV}{C:List α->List AV}{k:Nat}(h:Mi f C k)(x:α):plain (.agg (f x))=true:=h.pl x
def Mi.ix{α:Type}{f:α->List AV}{C:List α->List AV}{k:Nat}(h:Mi f C k){t elem:TypeId}(hu:P.underlying t=some (.slice elem))(hs:(P.info? elem).map (·.size)=some k)(own:Own){l:List α}{i:Nat}{x:α}(hx:l[i]?=some x):CO P t (.sl own l.length (C l)) (.sc (.int .i64 ((i:Nat):Int)))=some (.el (f x++C (l.drop (i+1)))):=by
 cases hi:P.info? elem with
 | none=>rw[hi] at hs;cases hs
 | some e =>
   rw[hi] at hs;rw[h.eq,h.eq];exact abV hu hi (by simpa using hs) h.len hx
def Mi.ixz{α:Type}{f:α->List AV}{C:List α->List AV}{k:Nat}(h:Mi f C k){t elem:TypeId}(hu:P.underlying t=some (.slice elem))(hs:(P.info? elem).map (·.size)=some k)(own:Own){l:List α}{z:Int}{x:α}(hx:F9 l z=some x):CO P t (.sl own l.length (C l)) (.sc (.int .i64 z))=some (.el (f x++C (l.drop (z.toNat+1)))):=by
 unfold F9 at hx;split at hx;rename_i hz;have:=h.ix hu hs own hx;rwa[Int.toNat_of_nonneg hz] at this;cases hx
def Mi.wn{α:Type}{f:α->List AV}{C:List α->List AV}{k:Nat}(h:Mi f C k)(m:List α){a:List AV}(w:Wn a (rows f m)):Wn a (C m):=by rw[h.eq];exact w
def ZN{α:Type}{f:α->List AV}{k:Nat}(hf:∀x,(f x).length=k)(l:List α)(i:Nat):(rows f l).drop (i*k)=rows f (l.drop i):=by
 induction l generalizing i with
 | nil=>simp[rows]
 | cons x l ih =>
   cases i with
   | zero=>simp
   | succ i =>
     rw[Fv,bqB,hf x,bjL (by rw[hf x,blG];omega),bcJ,List.drop_succ_cons,<- ih i];congr 1;rw[blG];omega
def ZO{α:Type}{f:α->List AV}{k:Nat}(hf:∀x,(f x).length=k)(l:List α)(i:Nat):(rows f l).take (i*k)=rows f (l.take i):=by
 induction l generalizing i with
 | nil=>simp[rows]
 | cons x l ih =>
   cases i with
   | zero=>simp[rows]
   | succ i =>
     rw[Fv,brL,hf x,blS (by rw[hf x,blG];omega),List.take_succ_cons,Fv,<- ih i];congr 2;rw[blG];omega
def Mi.sub{α:Type}{f:α->List AV}{C:List α->List AV}{k:Nat}(h:Mi f C k){t elem:TypeId}(hu:P.underlying t=some (.slice elem))(hs:(P.info? elem).map (·.size)=some k)(l q:Nat){s:List α}(h1:l<=q)(h2:q<=s.length)(lo hi:Option AV)(e1:OW 0 lo=some l)(e2:OW s.length hi=some q) :
   Mn P t (.sl .lost s.length (C s)) lo hi none=some (.sl .lost ((s.drop l).take (q - l)).length (C ((s.drop l).take (q - l)))):=by
 cases N1:P.info? elem with
 | none=>rw[N1] at hs;cases hs
 | some e =>
   rw[N1] at hs;have hk:e.size=k:=by simpa using hs
   unfold Mn;simp only[hu,N1,e1,e2,hk];rw[if_pos ⟨h1,h2,by rw[h.eq,IA h.len]⟩]
   have e3:(if l=0/\q=s.length then Own.lost else if q=s.length/\Own.lost=.full then .full else .lost)=.lost:=by
     split;rfl;split;rename_i hq;exact absurd hq.2 (by decide);rfl
   rw[e3,h.eq,h.eq,ZN h.len,ZO h.len];congr 2;simp;omega
def evt{β:Type}(f:Nat->Option β):Option β:=open Classical in if h:∃y,∃n0:Nat,∀n,n0<=n->f n=some y then some (bmW h) else none
def kK{β:Type}{f:Nat->Option β}{y:β}(h:evt f=some y):∃n,f n=some y:=by
 unfold evt at h;split at h;rename_i hx;obtain⟨n0,hn⟩:=blB hx;rw[bjE h] at hn;exact⟨n0,hn n0 (aOC _)⟩;cases h
def TN{β:Type}{f:Nat->Option β}{y:β}(n0:Nat)(h:∀n,n0<=n->f n=some y):evt f=some y:=by
 unfold evt;have hx:∃y,∃n0:Nat,∀n,n0<=n->f n=some y:=⟨y,n0,h⟩;rw[dif_pos hx];obtain⟨n1,hn⟩:=blB hx;have h1:=h (max n0 n1) (Nat.le_max_left _ _);have h2:=hn (max n0 n1) (Nat.le_max_right _ _);rw[h1] at h2;rw[bjE h2]
def Qa{β:Type}(n:Nat)(x:Option β):Option β:=if n<=100000000 then x else none
def atA{β:Type}{n:Nat}{x:Option β}{r:β}(h:Qa n x=some r):n<=100000000/\x=some r:=by
 unfold Qa at h;split at h;rename_i h1;exact⟨h1,h⟩;cases h
def Mi.jU{α:Type}{f:α->List AV}{C:List α->List AV}{k:Nat}(h:Mi f C k){t tx e e2 by':Nat}(hu:P.underlying t=some (.slice e))(hux:P.underlying tx=some (.slice e2))(hi:(P.info? e).map (λi=>(i.size,i.bytes,i.zero.map (·.cells.size)))=some (k,by',some k))(hk:0 < k)(hb:by'<=10000)
   (own:Own) (l m:List α) {o:Own} {n:Nat} {ns:List AV} (hn:Wn ns (C m)) (vY:n=m.length) (ho:ns.all one=true) (hm:m.length≠0) (hlen:l.length+m.length<=100000000):Cd.ok P G (.jU t tx own l.length (C l) (.sl o n ns) k (l++m).length (C (l++m))):=by
 subst vY;cases hq:P.info? e with
 | none=>rw[hq] at hi;cases hi
 | some i =>
   rw[hq] at hi;simp only[biQ,aOE,biY] at hi;obtain⟨h1,h2,h3⟩:=hi;cases hz:i.zero with
   | none=>rw[hz] at h3;cases h3
   | some z =>
     rw[hz] at h3;simp only[biQ,aOE] at h3;intro s QX;have hnl:ns.length=m.length*k:=by rw[hn.len,h.eq,IA h.len]
     have hll:(C l).length=l.length*k:=by rw[h.eq,IA h.len]
     refine⟨C l++ns,?_,λc w u o' hr=>?_⟩
     have hs:ZZ P s i.size tx (.sl o m.length ns)=some (m.length,ns):=by
       unfold ZZ;rw[hux,h1];simp only[hnl,if_true]
     unfold LF;simp only[hu,hq,hz];rw[if_pos ⟨by rw[h3,h1],by omega⟩,hs];simp only
     have hbb:(l.length+m.length)*i.bytes<=140737488355328:=by
       rw[h2];exact bjH (bpF hlen hb) (by decide)
     rw[if_pos ⟨by rw[hll,h1],ho,hbb,by omega⟩,if_neg hm,h1,if_pos QX,V5];rw[h.WY];exact Rp.wnC (Wn.WY (Wn.refl (C l)) hn) hr
def Ue{t tx:TypeId}{own:Own}{n:Nat}{cs:List AV}{b:AV}{sz k:Nat}{cs2:List AV}(h:Cd.ok P G (.jU t tx own n cs b sz k cs2)):PC P G :=
 match own with
 | .row r z=>⟨.g sz k cs2,[.jU t tx (.row r z) n cs b sz k cs2,.eqn n n],⟨h,rfl,trivial⟩⟩
 | .full=>⟨.g sz k cs2,[.jU t tx .full n cs b sz k cs2],⟨h,trivial⟩⟩
 | _=>⟨.g sz k cs2,[],trivial⟩
def Hj{a:AV}{l:List AV}(h:plain a=true)(t:Bz l=true):Bz (a::l)=true:=by simp only[Bz,h,t];rfl
def xF{a b:List AV}(ha:Bz a=true)(hb:Bz b=true):Bz (a++b)=true:=by
 induction a with
 | nil=>exact hb
 | cons x a ih =>
   simp only[Bz,bcA,bcE] at ha ⊢;exact⟨ha.1,ih ha.2⟩
end
end AI
namespace AI
open Go Go.RowKit
def Ke{P:Program}{α β:Type}(m:Sem α)(f:α->Sem β):pv P (m >>= f)=(pv P m).bind λa=>pv P (f a):=by
 show pv P (m.bind f)=_
 induction m with
 | pure a=>rfl
 | program k ih=>exact ih P
 | mark _ k ih=>exact ih
 | _=>rfl
def Oy{P:Program}{α:Type}(a:α):pv P (pure a:Sem α)=some a:=rfl
def Wo{P:Program}:pv P program=some P:=rfl
def KQ{P:Program}{t:TypeId}{d:TypeDesc}(h:P.underlying t=some d):pv P (underlying t)=some d:=by
 unfold underlying;rw[Ke,Wo];simp only[NF,h];rfl
def aSD{P:Program}{α:Type}(c:Prop)[Decidable c](a b:Sem α):pv P (if c then a else b)=if c then pv P a else pv P b:=by split<;>rfl
def XV{P:Program}(d:Nat)(t:TypeId)(xs ys:Array Value)(ht:P.underlying t=some (.struct (P.fieldsOf t)))(hp:P.stoodInHeld t=false) :
   pv P (bnE (d+1) t (.agg xs) (.agg ys))=pv P (bpL d xs ys (P.fieldsOf t).toList):=by
 simp only[bnE,Ke,KQ ht,NF,Wo,hp,biT,if_false];rw[<- Array.forIn_toList];generalize (P.fieldsOf t).toList=fs;clear ht
 induction fs with
 | nil=>simp[bpL,Oy]
 | cons f fs ih =>
   simp only[List.forIn_cons,bpL,Ke,aSD];split
   · generalize pv P (part f.type xs f.offset)=r1
     cases r1 with
     | none=>simp
     | some a =>
       simp only[NF];generalize pv P (part f.type ys f.offset)=r2;cases r2 with
       | none=>simp
       | some b =>
         simp only[NF];generalize pv P (bnE d f.type a b)=r3;cases r3 with
         | none=>simp
         | some r =>
           cases r;simp[Oy];simp only[NF,Bool.not_true,biT,if_false,Oy];exact ih
   simp only[Oy,NF];exact ih
def aCZ{P:Program}{t:TypeId}{k:IntKind}(h:P.underlying t=some (.int k))(cs:Array Value)(off:Nat){v:Value}(hv:cs[off]?=some v):pv P (part t cs off)=some v:=by
 unfold part isAgg;simp[Ke,KQ h,Oy,hv]
def gK{P:Program}(d:Nat){t:TypeId}{k k':IntKind}(a b:Int)(h:P.underlying t=some (.int k')):pv P (bnE (d+1) t (.int k a) (.int k b))=some (a == b):=by
 simp[bnE,Ke,KQ h,Oy]
def xL{P:Program}(op:BinOp)(t:TypeId)(x y:Operand)(xs ys:Array Value)(hm:P.eqGuardType P.depth t=false):pv P (eqGuard op t x y (.agg xs) (.agg ys))=some ():=by
 cases op<;>simp[eqGuard,Ke,Wo,hm,Oy]
def TQ(P:Program)(t:TypeId):Nat:=match P.underlying t with
 | some (.int _)=>1
 | some .string=>2
 | _=>0
def fEq:Value->Value->Option Bool
 | .int k a,.int k' b=>if k=k' then some (a == b) else none
 | .string a,.string b=>some (a == b)
 | _,_=>none
def kF:List Value->List Value->Option Bool
 | [],[]=>some true
 | a::as,b::bs=>(fEq a b).bind λr=>(match r with | true=>kF as bs | false=>some false)
 | _,_=>none
def xM{P:Program}{t:TypeId}(h:TQ P t≠0)(cs:Array Value)(off:Nat){v:Value}(hv:cs[off]?=some v):pv P (part t cs off)=some v:=by
 unfold TQ at h;split at h;rename_i h1;exact aCZ h1 cs off hv;rename_i h1;unfold part isAgg;simp[Ke,KQ h1,Oy,hv];exact absurd rfl h
def aSC{P:Program}(d:Nat){t:TypeId}{a b:Value}{r:Bool}(hk:(∃k n m,a=.int k n/\b=.int k m/\TQ P t=1)\/(∃x y,a=.string x/\b=.string y/\TQ P t=2))(h:fEq a b=some r):pv P (bnE (d+1) t a b)=some r:=by
 rcases hk with ⟨k,n,m,rfl,rfl,hk⟩ | ⟨x,y,rfl,rfl,hk⟩
 unfold TQ at hk;split at hk;rename_i h1;simp only[fEq,if_true] at h;rw[gK d n m h1];exact h;cases hk;cases hk;unfold TQ at hk;split at hk;cases hk;rename_i h1;simp only[fEq] at h;rw[<- h];simp[bnE,Ke,KQ h1,Oy];cases hk
def vJ:List Nat->List Value->Prop
 | [],[]=>True
 | k::ks,v::vs=>((∃n,v=.int .i64 n/\k=1)\/(∃x,v=.string x/\k=2))/\vJ ks vs
 | _,_=>False
def alF{P:Program}(d:Nat):∀(fs:List Field) (off:Nat) (ks:List Nat) (xs ys:List Value) (us vs:List Value) (r:Bool),fs.map (λf=>TQ P f.type)=ks->(∀(i:Nat) f,fs[i]?=some f->f.name≠"_"/\f.offset=off+i)->xs.drop off=us->ys.drop off=vs->vJ ks us->vJ ks vs->kF us vs=some r->pv P (bpL (d+1) xs.toArray ys.toArray fs)=some r:=by
 intro fs
 induction fs with
 | nil =>
   intro off ks xs ys us vs r Tj _ hx hy h1 h2 h;cases ks with
   | cons=>cases Tj
   | nil =>
     cases us<;>cases vs<;>simp only[vJ,kF] at h1 h2 h
     rw[<- h];rfl
 | cons f fs ih =>
   intro off ks xs ys us vs r Tj hf hx hy h1 h2 h;cases ks with
   | nil=>cases Tj
   | cons k ks =>
     cases us with
     | nil=>cases h1
     | cons u us =>
       cases vs with
       | nil=>cases h2
       | cons v vs =>
         simp only[bjM,bnR] at Tj;obtain⟨hk,Tj⟩:=Tj;obtain⟨hn,ho⟩:=hf 0 f rfl;rw[bkH] at ho;have hxu:xs.toArray[off]?=some u:=by rw[blH,<- bmM,hx];rfl
         have hyv:ys.toArray[off]?=some v:=by rw[blH,<- bmM,hy];rfl
         have hk0:TQ P f.type≠0:=by
           rw[hk];rcases h1.1 with ⟨_,_,e⟩ | ⟨_,_,e⟩<;>omega
         have hkk:(∃k n m,u=.int k n/\v=.int k m/\TQ P f.type=1)\/(∃x y,u=.string x/\v=.string y/\TQ P f.type=2):=by
           rw[hk];rcases h1.1 with ⟨n,e1,e2⟩ | ⟨n,e1,e2⟩<;>rcases h2.1 with ⟨m,e3,e4⟩ | ⟨m,e3,e4⟩
           exact .inl ⟨_,n,m,e1,e3,e2⟩;omega;omega;exact .inr ⟨n,m,e1,e3,e2⟩
         simp only[kF] at h;cases hq:fEq u v with
         | none=>rw[hq] at h;cases h
         | some q =>
           rw[hq] at h;simp only[bpL,hn,ne_eq,not_false_eq_true,if_true,ho];simp only[Ke,xM hk0 xs.toArray off hxu,xM hk0 ys.toArray off hyv,NF,aSC d hkk hq];cases q with
           | false =>
             have:r=false:=by simpa using h.symm
             subst this;rfl
           | true =>
             have ih:=ih (off+1) ks xs ys us vs r Tj (λi f' hi=>by
               have:=hf (i+1) f' (by simpa using hi)
               exact⟨this.1,by rw[this.2];omega⟩) (by rw[<- boE,hx];rfl) (by rw[<- boE,hy];rfl) h1.2 h2.2 (by simpa using h)
             simpa using ih
structure Flat(P:Program)(t:TypeId)(ks:List Nat):Prop where
 st:P.underlying t=some (.struct (P.fieldsOf t))
 hp:P.stoodInHeld t=false
 hm:P.eqGuardType P.depth t=false
 kd:(P.fieldsOf t).toList.map (λf=>TQ P f.type)=ks
 nm:(P.fieldsOf t).toList.map (λf=>decide (f.name≠"_"))=bkT ks.length true
 of:(P.fieldsOf t).toList.map (λf=>f.offset)=bjR ks.length
def amE(vs:List Value):QL (vs.map .sc)=some vs:=by
 induction vs with
 | nil=>rfl
 | cons v vs ih=>simp[QL,iU,ih]
def Flat.pv{P:Program}{t:TypeId}{ks:List Nat}(h:Flat P t ks){us vs:List Value}{r:Bool}(h1:vJ ks us)(h2:vJ ks vs)(h3:kF us vs=some r):AI.pv P (bnE (9998+1+1) t (.agg us.toArray) (.agg vs.toArray))=some r:=by
 rw[XV _ _ _ _ h.st h.hp];refine alF 9998 _ 0 ks us vs us vs r h.kd (λi f hf=>?_) rfl rfl h1 h2 h3
 have hl:i < ks.length:=by
   have:=(abH.1 hf).1;have h5:=congrArg blU h.kd;simp at h5 this;omega
 have a1:=congrArg (λl=>l[i]?) h.nm;have a2:=congrArg (λl=>l[i]?) h.of;simp only[biU,hf,biQ,List.getElem?_replicate,hl,if_true,aOE,decide_eq_true_eq] at a1;simp only[biU,hf,biQ,bmG hl,aOE] at a2;exact⟨a1,by omega⟩
def Flat.bin{P:Program}{t:TypeId}{ks:List Nat}(h:Flat P t ks){us vs:List Value}{r:Bool}(h1:vJ ks us)(h2:vJ ks vs)(h3:kF us vs=some r)(x y:Operand) :
   LG P .eql t x y (.agg (us.map .sc)) (.agg (vs.map .sc))=some (.sc (.bool r))/\LG P .neq t x y (.agg (us.map .sc)) (.agg (vs.map .sc))=some (.sc (.bool (!r))):=by
 have ht:∀l:List Value,X9 (.agg (l.map .sc))=some (.agg l.toArray):=λl=>by simp only[X9,amE,biQ]
 have hv:=h.pv h1 h2 h3
 have e1:AI.pv P (do eqGuard .eql t x y (.agg us.toArray) (.agg vs.toArray);binOp .eql t (.agg us.toArray) (.agg vs.toArray))=some (.bool r):=by
   rw[Ke,xL _ _ _ _ _ _ h.hm];simp only[NF,binOp,Ke,Op.equal,Op.maxDepth];rw[show(10000:Nat)=9998+1+1 from rfl,hv];rfl
 have e2:AI.pv P (do eqGuard .neq t x y (.agg us.toArray) (.agg vs.toArray);binOp .neq t (.agg us.toArray) (.agg vs.toArray))=some (.bool (!r)):=by
   rw[Ke,xL _ _ _ _ _ _ h.hm];simp only[NF,binOp,Ke,Op.equal,Op.maxDepth];rw[show(10000:Nat)=9998+1+1 from rfl,hv];rfl
 refine⟨?_,?_⟩;show SY _ _ _ _ _ (.agg _) (.agg _)=_;unfold SY;simp only[ht,e1,NF];rfl;show SY _ _ _ _ _ (.agg _) (.agg _)=_;unfold SY;simp only[ht,e2,NF];rfl
def aTW(x y:Int):Int:=if y > x then y else x
end AI
namespace AI
open Go Go.RowKit
mutual
inductive Rn(k j:Nat)(ρ σ:Nat->Nat):AV->AV->Prop where
 | pl {a:AV} (h:plain a=true):Rn k j ρ σ a a
 | ptr {i off:Nat} (h:i < k):Rn k j ρ σ (.ptr i off) (.ptr (ρ i) off)
 | mp {i:Nat} (h:i < k):Rn k j ρ σ (.mp i) (.mp (ρ i))
 | msl {i off n:Nat} (h:i < k):Rn k j ρ σ (.msl i off n) (.msl (ρ i) off n)
 | row {r sz n:Nat} {cs:List AV} (h:r < j) (hp:Bz cs=true):Rn k j ρ σ (.sl (.row r sz) n cs) (.sl (.row (σ r) sz) n cs)
 | agg {cs ds:List AV} (h:WX k j ρ σ cs ds):Rn k j ρ σ (.agg cs) (.agg ds)
 | E9 {cs ds:List AV} (h:WX k j ρ σ cs ds):Rn k j ρ σ (.E9 cs) (.E9 ds)
 | fn {f:Fn} {a a' b b':List AV} (h1:WX k j ρ σ a a') (h2:WX k j ρ σ b b'):Rn k j ρ σ (.fn f a b) (.fn f a' b')
inductive WX(k j:Nat)(ρ σ:Nat->Nat):List AV->List AV->Prop where
 | nil:WX k j ρ σ [] []
 | cons {a b:AV} {l m:List AV} (h:Rn k j ρ σ a b) (t:WX k j ρ σ l m):WX k j ρ σ (a::l) (b::m)
end
inductive tY(k j:Nat)(ρ σ:Nat->Nat):Ao->Ao->Prop where
 | cells {cs ds:List AV} (h:WX k j ρ σ cs ds):tY k j ρ σ (.cells cs) (.cells ds)
 | map {es:List (Value×AV×Nat)} {cl:Nat} (h:∀e∈es,plain e.2.1=true):tY k j ρ σ (.map es cl) (.map es cl)
def WX.pl{k j:Nat}{ρ σ:Nat->Nat}:∀{l:List AV},Bz l=true->WX k j ρ σ l l
 | [],_=>.nil
 | a::l,h=>by
   simp only[Bz,bcA] at h;exact .cons (.pl h.1) (WX.pl h.2)
section
variable {c c':Cx} {w w':World} {k j:Nat} {ρ σ:Nat->Nat}
structure Dn(k j:Nat)(ρ σ:Nat->Nat)(c:Cx)(w:World)(c0:Cx)(w0:World):Prop where
 lR:∀g i v,MD c w g i v->MD c0 w0 g i v
 CJ:∀i g,i < k->c.CJ[ρ i]?=some (some g)->c0.CJ[i]?=some (some g)
 rows:∀r,r < j->∃x,c.rows[σ r]?=some x/\c0.rows[r]?=some x
structure Up(k j:Nat)(ρ σ:Nat->Nat)(c0:Cx)(w0:World)(c:Cx)(w:World):Prop where
 lR:∀g i v,MD c0 w0 g i v->MD c w g i v
 CJ:∀i g,i < k->c0.CJ[i]?=some (some g)->c.CJ[ρ i]?=some (some g)
 rows:∀r,r < j->∃x,c.rows[σ r]?=some x/\c0.rows[r]?=some x
mutual
def Rn.down(d:Dn k j ρ σ c w c' w'):∀{a b:AV} {v:Value},Rn k j ρ σ a b->Rp c w b v->Rp c' w' a v:=by
 intro a b v hn h;cases hn with
 | pl hp=>exact h.plain d.lR hp
 | ptr hi=>cases h with | ptr h1=>exact .ptr (d.CJ _ _ hi h1)
 | mp hi=>cases h with | mp h1=>exact .mp (d.CJ _ _ hi h1)
 | msl hi=>cases h with | msl hn h1=>exact .msl hn (d.CJ _ _ hi h1)
 | @row r sz n cs hr hp =>
   obtain⟨x,hx,hx0⟩:=d.rows r hr;have hl:=(abH.1 hx0).1;cases h with
   | sl0 h0=>exact .sl0 ⟨h0.1,hl⟩
   | K6 hn hc ho =>
     refine .K6 hn (hc.plain d.lR hp) ⟨ho.1,ho.2.1,hl,λe=>ho.2.2.2.1 ?_,λg' n' cap' OL e=>ho.2.2.2.2 g' n' cap' OL ?_⟩;rw[hx,<- hx0];exact e;rw[hx,<- hx0];exact e
 | agg h1=>cases h with | agg h2=>exact .agg (WX.down d h1 h2)
 | E9 h1=>cases h with | E9 h2=>exact .E9 (WX.down d h1 h2)
 | fn h1 h2=>cases h with | fn h3 h4=>exact .fn (WX.down d h1 h3) (WX.down d h2 h4)
def WX.down(d:Dn k j ρ σ c w c' w'):∀{a b:List AV} {v:List Value},WX k j ρ σ a b->Cv c w b v->Cv c' w' a v:=by
 intro a b v hn h;cases hn with
 | nil=>cases h;exact .nil
 | cons h1 t=>cases h with | cons h2 t2=>exact .cons (Rn.down d h1 h2) (WX.down d t t2)
end
mutual
def Rn.up(d:Up k j ρ σ c w c' w'):∀{a b:AV} {v:Value},Rn k j ρ σ a b->Rp c w a v->Rp c' w' b v:=by
 intro a b v hn h;cases hn with
 | pl hp=>exact h.plain d.lR hp
 | ptr hi=>cases h with | ptr h1=>exact .ptr (d.CJ _ _ hi h1)
 | mp hi=>cases h with | mp h1=>exact .mp (d.CJ _ _ hi h1)
 | msl hi=>cases h with | msl hn h1=>exact .msl hn (d.CJ _ _ hi h1)
 | @row r sz n cs hr hp =>
   obtain⟨x,hx,hx0⟩:=d.rows r hr;have hl:=(abH.1 hx).1;cases h with
   | sl0 h0=>exact .sl0 ⟨h0.1,hl⟩
   | K6 hn hc ho =>
     refine .K6 hn (hc.plain d.lR hp) ⟨ho.1,ho.2.1,hl,λe=>ho.2.2.2.1 ?_,λg' n' cap' OL e=>ho.2.2.2.2 g' n' cap' OL ?_⟩;rw[hx0,<- hx];exact e;rw[hx0,<- hx];exact e
 | agg h1=>cases h with | agg h2=>exact .agg (WX.up d h1 h2)
 | E9 h1=>cases h with | E9 h2=>exact .E9 (WX.up d h1 h2)
 | fn h1 h2=>cases h with | fn h3 h4=>exact .fn (WX.up d h1 h3) (WX.up d h2 h4)
def WX.up(d:Up k j ρ σ c w c' w'):∀{a b:List AV} {v:List Value},WX k j ρ σ a b->Cv c w a v->Cv c' w' b v:=by
 intro a b v hn h;cases hn with
 | nil=>cases h;exact .nil
 | cons h1 t=>cases h with | cons h2 t2=>exact .cons (Rn.up d h1 h2) (WX.up d t t2)
end
def K8.plain(hv:∀g i v,MD c w g i v->MD c' w' g i v):∀{es:List (Value×AV×Nat)} {fs:List MapEntry},(∀e∈es,AI.plain e.2.1=true)->K8 c w es fs->K8 c' w' es fs:=by
 intro es
 induction es with
 | nil=>intro fs _ h;cases h;exact .nil
 | cons e es ih =>
   intro fs hp h;cases h with | cons h1 t=>exact .cons (h1.plain hv (hp _ bjW)) (ih (λx hx=>hp x (bjI _ hx)) t)
def tY.down(d:Dn k j ρ σ c w c' w'){a b:Ao}{o:Obj}(hn:tY k j ρ σ a b)(h:EA c w b o):EA c' w' a o:=by
 cases hn with
 | cells h1=>cases h with | GA ext h2=>exact .GA ext (WX.down d h1 h2)
 | map hp=>cases h with | map h2=>exact .map (h2.plain d.lR hp)
def tY.up(d:Up k j ρ σ c w c' w'){a b:Ao}{o:Obj}(hn:tY k j ρ σ a b)(h:EA c w a o):EA c' w' b o:=by
 cases hn with
 | cells h1=>cases h with | GA ext h2=>exact .GA ext (WX.up d h1 h2)
 | map hp=>cases h with | map h2=>exact .map (h2.plain d.lR hp)
end
structure Upd(k j:Nat)(ρ σ:Nat->Nat)(h2:List (Nat×Ao))(F2:List (Nat×Nat))(s s2:AS):Prop where
 nx:s2.nx=s.nx
 nr:s2.nr=s.nr
 desc:∀n,Kx s.h n->Kx s2.h n
 get:∀id b,s2.get id=some b->(∃i b0,i < k/\id=ρ i/\look i h2=some b0/\tY k j ρ σ b0 b)\/((∀i,i < k->id≠ρ i)/\s.get id=some b)
 tok:∀q n,DY q s2.F=some n->(∃r,r < j/\q=σ r/\DY r F2=some n)\/((∀r,r < j->q≠σ r)/\DY q s.F=some n)
def RnR(k j:Nat)(ρ σ:Nat->Nat):CR->CR->Prop
 | .ret v,.ret v'=>Rn k j ρ σ v v'
 | .pan v,.pan v'=>Rn k j ρ σ v v'
 | _,_=>False
def aNO{P:Program}{G:AK}(hG:∀g cs,G g=some cs->Bz cs=true){f:FuncId}{args dB:List AV}{r r':CR}{hm h2:List (Nat×Ao)}{k j:Nat}{Fm F2:List (Nat×Nat)}(h:Sound P G (.call f args ⟨hm,k,Fm,j⟩ r ⟨h2,k,F2,j⟩))(hd:Kx hm k)
   (ρ σ:Nat->Nat) (bcY:∀i i',i < k->i' < k->ρ i=ρ i'->i=i') (aIR:∀i i',i < j->i' < j->σ i=σ i'->i=i') (GB:WX k j ρ σ args dB)
   {s s2:AS} (QW:∀i b,i < k->look i hm=some b->∃b',s.get (ρ i)=some b'/\tY k j ρ σ b b')
   (Tl:∀cx w vs,St G cx w s->Cv cx w dB vs->∀i,i < k->∃g,cx.CJ[ρ i]?=some (some g))
   (aXP:∀q n,q < j->DY q Fm=some n->DY (σ q) s.F=some n) (aXO:∀q,q < j->∃n,DY q Fm=some n) (hFm:∀q n,DY q Fm=some n->q < j)
   (hr:RnR k j ρ σ r r')
   (hu:Upd k j ρ σ h2 F2 s s2):Sound P G (.call f dB s r' s2):=by
 intro cx w vs hs ha;have hph:=Tl cx w vs hs ha
 have hg:∀i:Nat,∃g,i < k->cx.CJ[ρ i]?=some (some g):=λi=>by
   by_cases hi:i < k;obtain⟨g,hg⟩:=hph i hi;exact⟨g,λ_=>hg⟩;exact⟨0,λh=>absurd h hi⟩
 obtain⟨gs,hgs⟩:=bqD hg
 have hrw:∀q:Nat,∃x,q < j->cx.rows[σ q]?=some x:=λq=>by
   by_cases hq:q < j;obtain⟨n,hn⟩:=aXO q hq;rcases hs.Jl _ _ (aXP q n hq hn) with ⟨h1,_⟩ | ⟨g,cap,sz,h1⟩
   exact⟨_,λ_=>h1⟩;exact⟨_,λ_=>h1⟩;exact⟨.gone,λh=>absurd h hq⟩
 obtain⟨rw,hrw⟩:=bqD hrw;have YA:∀i,i < k->some (gs i)∈cx.CJ:=λi hi=>bcH (hgs i hi);have hgi:∀i i',i < k->i' < k->gs i=gs i'->i=i':=λi i' hi N1 e=>bcY i i' hi N1 (hs.nodup _ _ _ (hgs i hi) (by rw[e];exact hgs i' N1));let K:Nat->Prop:=λq=>(∃i,i < k/\q=gs i)\/∃r n cap sz,r < j/\cx.rows[σ r]?=some (.R1 q n cap sz);let c0:Cx:=⟨0,(bjR k).map λi=>some (gs i),(bjR j).map rw,λq i=>¬K q/\cx.lN q i⟩
 have ZA:∀(i g:Nat),c0.CJ[i]?=some (some g)↔i < k/\g=gs i:=by
   intro i g;show((bjR k).map λi=>some (gs i))[i]?=some (some g)↔_;rw[biU];by_cases hi:i < k;rw[bmG hi];simp[hi,eq_comm];rw[bkC (by simp;omega)];simp[hi]
 have vX:∀g,some g∈c0.CJ->∃i,i < k/\g=gs i:=by
   intro g eZ;obtain⟨i,hi,e⟩:=List.mem_map.1 eZ;exact⟨i,List.mem_range.1 hi,(bjE e).symm⟩
 have fE:∀(q:Nat) x,c0.rows[q]?=some x->q < j/\cx.rows[σ q]?=some x:=by
   intro q x hx;have hx:((bjR j).map rw)[q]?=some x:=hx;have hl:=(abH.1 hx).1;simp at hl;rw[biU,bmG hl] at hx;simp at hx;subst hx;exact⟨hl,hrw q hl⟩
 have abO:∀q,q < j->c0.rows[q]?=some (rw q):=by
   intro q hq;show((bjR j).map rw)[q]?=some (rw q);rw[biU,bmG hq];rfl
 have arT:c0.rows.length=j:=by show((bjR j).map rw).length=j;simp
 have IL:∀g i x,MD cx w g i x->MD c0 w g i x:=by
   intro g i x hx;refine⟨hx.1,λGr=>?_,hx.2.2⟩;rcases Gr with Gr | ⟨r,n,cap,sz,hr,h1,h2⟩ | Gr
   obtain⟨i',N1,rfl⟩:=vX g Gr;exact hx.2.1 (.inl (YA i' N1));exact hx.2.1 (.inr (.inl ⟨σ r,n,cap,sz,(fE _ _ hr).2,h1,h2⟩));exact hx.2.1 Gr.2
 have hdn:Dn k j ρ σ cx w c0 w:=⟨IL,λi g hi eZ=>by
   rw[ZA];rw[hgs i hi] at eZ;cases eZ;exact⟨hi,rfl⟩,λq hq=>⟨rw q,hrw q hq,abO q hq⟩⟩
 have Fl:St G c0 w ⟨hm,k,Fm,j⟩:=by
   refine⟨by simp[c0],hd,λi i' g h1 h2=>?_,λg _=>bkI _,λid g b h1 h2=>?_,arT.symm,λq g n cap sz hq=>?_,λq n hq=>?_,λg eZ=>?_,(λq i hb=>hs.WB hb.2),λq q' g n cap sz n' cap' OL h1 h2=>?_,(λg cs eZ=>A1.plain IL (hG g cs eZ) (hs.Mr g cs eZ)),bkI _,hs.Ol.sub (λg hm=>by obtain⟨i,hi,rfl⟩:=vX g hm;exact YA i hi) (λr g n cap sz e=>⟨σ r,n,cap,sz,(fE _ _ e).2⟩)⟩;obtain⟨hi,e1⟩:=(ZA i g).1 h1;obtain⟨N1,e2⟩:=(ZA i' g).1 h2;exact hgi i i' hi N1 (e1.symm.trans e2);obtain⟨hi,rfl⟩:=(ZA id g).1 h1;obtain⟨b',Xt,hn⟩:=QW id b hi h2;obtain⟨o,ho,hb⟩:=hs.box (ρ id) (gs id) _ (hgs id hi) Xt;exact⟨o,ho,hn.down hdn hb⟩;obtain⟨hq1,hq2⟩:=fE _ _ hq;obtain⟨_,_,a3,a4,a5⟩:=hs.row _ _ _ _ _ hq2;refine⟨λi hb=>hb.1 (.inr ⟨q,n,cap,sz,hq1,hq2⟩),bkI _,λhm'=>?_,a4,a5⟩;obtain⟨i,hi,rfl⟩:=vX g hm';exact a3 (YA i hi);have hlt:=hFm q n hq;have:=hs.Jl _ _ (aXP q n hlt hq);rw[hrw q hlt] at this;rw[abO q hlt];exact this;obtain⟨i,hi,rfl⟩:=vX g eZ;exact hs.NP (YA i hi);obtain⟨a1,a2⟩:=fE _ _ h1;obtain⟨b1,b2⟩:=fE _ _ h2;exact aIR _ _ a1 b1 (hs.IU _ _ _ _ _ _ _ _ _ a2 b2)
 refine(h c0 w vs Fl (GB.down hdn ha)).mono ?_;rintro e w' ⟨c',hx,NG,vV⟩
 have afM:c'.CJ=c0.CJ:=by
   obtain⟨t,ht⟩:=hx.CJ;have h1:c'.CJ.length=k:=NG.len.symm;have h2:c0.CJ.length=k:=by simp[c0]
   rw[<- ht,V5,h2] at h1;have:t=[]:=biP (by omega);rw[<- ht,this,bcB]
 have aPZ:c'.rows.length=j:=NG.I8.symm;have arU:∀q,q < j->∃y,c'.rows[q]?=some y:=λq hq=>⟨_,abI (by rw[aPZ];exact hq)⟩
 have hle:∀q y,q < j->c'.rows[q]?=some y->La (rw q) y:=by
   intro q y hq hy;obtain⟨x,h1,h2⟩:=hx.rows q y (by rw[arT];exact hq) hy;rw[abO q hq] at h1;cases h1;exact h2
 let xZ:List Rw:=(bjR cx.rows.length).map λq=>open Classical in if hq:∃r,r < j/\σ r=q then c'.rows.getD (bmW hq) .gone else cx.rows.getD q .gone
 have arV:xZ.length=cx.rows.length:=by simp[xZ]
 have kO:∀r,r < j->xZ[σ r]?=c'.rows[r]?:=by
   intro r hr;have hl:=(abH.1 (hrw r hr)).1;show((bjR cx.rows.length).map _)[σ r]?=_;rw[biU,bmG hl];simp only[biQ];have hq:∃r',r' < j/\σ r'=σ r:=⟨r,hr,rfl⟩;rw[dif_pos hq];have hc:=blB hq;have:bmW hq=r:=aIR _ _ hc.1 hr hc.2;rw[this];obtain⟨y,hy⟩:=arU r hr;rw[bkG,hy];rfl
 have qM:∀q,(∀r,r < j->q≠σ r)->xZ[q]?=cx.rows[q]?:=by
   intro q hq;by_cases hl:q < cx.rows.length;show((bjR cx.rows.length).map _)[q]?=_;rw[biU,bmG hl];simp only[biQ];rw[dif_neg (by rintro⟨r,h1,h2⟩;exact hq r h1 h2.symm),bkG,abI hl];rfl;rw[bkC (by omega),bkC (by omega)]
 have VC:∀q:Nat,(∃r,r < j/\q=σ r)\/∀r,r < j->q≠σ r:=λq=>by
   by_cases hq:∃r,r < j/\q=σ r;exact .inl hq;exact .inr λr h1 h2=>hq ⟨r,h1,h2⟩
 have Ms:∀r g n cap sz,r < j->c'.rows[r]?=some (.R1 g n cap sz)->(∃r0 n0 QS lO,r0 < j/\cx.rows[σ r0]?=some (.R1 g n0 QS lO))\/w.heap.size<=g:=by
   intro r g n cap sz hr hy;rcases hx.iA _ _ _ _ _ hy with ⟨r0,n0,QS,lO,h1⟩ | h1
   obtain⟨h2,h3⟩:=fE _ _ h1;exact .inl ⟨r0,n0,QS,lO,h2,h3⟩;exact .inr h1
 have P8:=hx.below
 have V6:Tv w w' K:=⟨P8.os,P8.tape,P8.output,P8.size,λq hq hne=>hx.GY q hq (λhm'=>hne (.inl (vX q hm'))) (λr n cap sz hr=>hne (by
   obtain⟨h1,h2⟩:=fE _ _ hr;exact .inr ⟨r,n,cap,sz,h1,h2⟩))⟩
 have hKb:∀q,K q->cx.base<=q:=by
   rintro q (⟨i,hi,rfl⟩ | ⟨r,n,cap,sz,hr,h1⟩);exact hs.low _ (YA i hi);exact(hs.row _ _ _ _ _ h1).2.1
 let c1:Cx:=⟨cx.base,cx.CJ,xZ,cx.bad⟩
 have wD:∀g i x,MD c' w' g i x->MD c1 w' g i x:=by
   intro g i x hv;refine⟨hv.1,λGr=>hv.2.1 ?_,hv.2.2⟩;have Lz:¬K g->cx.lN g i->c'.lN g i:=λh1 h2=>.inr (.inr (by rw[hx.bad];exact⟨h1,h2⟩));rcases Gr with Gr | ⟨q,n,cap,sz,hq,h1,h2⟩ | Gr
   by_cases hK:K g;rcases hK with ⟨i',N1,rfl⟩ | ⟨r,n,cap,sz,hr,h1⟩
   refine .inl ?_;rw[afM];exact bcH ((ZA i' (gs i')).2 ⟨N1,rfl⟩);exact absurd Gr (hs.row _ _ _ _ _ h1).2.2.1;exact Lz hK (.inl Gr);rcases VC q with ⟨r,hr,rfl⟩ | hq'
   simp only[c1] at hq;rw[kO r hr] at hq;exact .inr (.inl ⟨r,n,cap,sz,hq,h1,h2⟩);simp only[c1] at hq;rw[qM q hq'] at hq;refine Lz ?_ (.inr (.inl ⟨q,n,cap,sz,hq,h1,h2⟩));rintro(⟨i',N1,rfl⟩ | ⟨r,n',cap',OL,hr,h3⟩);exact(hs.row _ _ _ _ _ hq).2.2.1 (YA i' N1);exact hq' r hr (hs.IU _ _ _ _ _ _ _ _ _ hq h3);by_cases hK:K g;rcases hK with ⟨i',N1,rfl⟩ | ⟨r,n,cap,sz,hr,h1⟩
   refine .inl ?_;rw[afM];exact bcH ((ZA i' (gs i')).2 ⟨N1,rfl⟩);exact absurd Gr ((hs.row _ _ _ _ _ h1).1 i);exact Lz hK (.inr (.inr Gr))
 have ext:Ext cx w c1 w':=by
   refine⟨List.prefix_refl _,by simp[c1,arV],λq y hq hy=>?_,λg i x hv=>wD g i x (hx.lR g i x (IL g i x hv)),V6.below hs.R2 hKb,rfl,rfl,λ_ h=>.inl h,λq g n cap sz hq=>?_,λq hq hp hr=>V6.block q hq ?_⟩;rcases VC q with ⟨r,hr,rfl⟩ | hq'
   simp only[c1] at hy;rw[kO r hr] at hy;exact⟨rw r,hrw r hr,hle r y hr hy⟩;simp only[c1] at hy;rw[qM q hq'] at hy;exact⟨y,hy,La.refl y⟩;rcases VC q with ⟨r,hr,rfl⟩ | hq'
   simp only[c1] at hq;rw[kO r hr] at hq;rcases Ms _ _ _ _ _ hr hq with ⟨r0,n0,QS,lO,_,h1⟩ | h1
   exact .inl ⟨_,_,_,_,h1⟩;exact .inr h1;simp only[c1] at hq;rw[qM q hq'] at hq;exact .inl ⟨_,_,_,_,hq⟩;rintro(⟨i',N1,rfl⟩ | ⟨r,n',cap',OL,bK,h3⟩);exact hp (YA i' N1);exact hr _ _ _ _ h3
 have hup:Up k j ρ σ c' w' c1 w':=⟨wD,λi g hi eZ=>by
   rw[afM,ZA] at eZ;obtain⟨_,rfl⟩:=eZ;exact hgs i hi,λq hq=>by
   obtain⟨y,hy⟩:=arU q hq;exact⟨y,by simp only[c1];rw[kO q hq];exact hy,hy⟩⟩
 have st1:St G c1 w' s2:=by
   refine⟨by rw[hu.nx,hs.len],by rw[hu.nx];exact hu.desc _ hs.desc,hs.nodup,hs.low,λid g b h1 h2=>?_,by rw[hu.nr,hs.I8];exact arV.symm,λq g n cap sz hq=>?_,λq n hq=>?_,λg eZ=>bcC (hs.Np g eZ) V6.size,λg i hb=>bcC (hs.ND g i hb) V6.size,λq q' g n cap sz n' cap' OL h1 h2=>?_,λg cs eZ=>(hs.Mr g cs eZ).mono ext,bjH hs.R2 V6.size,hs.Ol.mono ext⟩;rcases hu.get id b h2 with ⟨i,b0,hi,rfl,hb0,hn⟩ | ⟨hne,h3⟩
   obtain⟨o,ho,hb⟩:=NG.box i (gs i) b0 (by rw[afM];exact(ZA i (gs i)).2 ⟨hi,rfl⟩) hb0;have h1:cx.CJ[ρ i]?=some (some g):=h1;rw[hgs i hi] at h1;cases h1;exact⟨o,ho,hn.up hup hb⟩;obtain⟨o,ho,hb⟩:=hs.box id g b h1 h3;refine⟨o,?_,hb.mono ext⟩;rw[V6.block g (aOA.1 ho).1 ?_];exact ho;rintro(⟨i',N1,rfl⟩ | ⟨r,n',cap',OL,bK,h4⟩);exact hne i' N1 (hs.nodup _ _ _ h1 (hgs i' N1));exact(hs.row _ _ _ _ _ h4).2.2.1 (bcH h1);simp only[c1] at hq ⊢;rcases VC q with ⟨r,bK,rfl⟩ | hq'
   rw[kO r bK] at hq;obtain⟨a1,a2,a3,a4,a5⟩:=NG.row _ _ _ _ _ hq;rcases Ms _ _ _ _ _ bK hq with ⟨r0,n0,QS,lO,_,h4⟩ | h4
   obtain⟨b1,b2,b3,_⟩:=hs.row _ _ _ _ _ h4;exact⟨b1,b2,b3,a4,a5⟩;refine⟨λi hb=>?_,bjH hs.R2 h4,λhm'=>?_,a4,a5⟩;have:=hs.ND _ _ hb;omega;have:=hs.NP hm';omega;rw[qM q hq'] at hq;obtain⟨a1,a2,a3,a4,vs',T,a5,a6⟩:=hs.row _ _ _ _ _ hq;refine⟨a1,a2,a3,a4,vs',T,?_,a6⟩;rw[V6.block g (aOA.1 a5).1 ?_];exact a5;rintro(⟨i',N1,rfl⟩ | ⟨r,n',cap',OL,bK,h4⟩);exact a3 (YA i' N1);exact hq' r bK (hs.IU _ _ _ _ _ _ _ _ _ hq h4);simp only[c1];rcases hu.tok q n hq with ⟨r,bK,rfl,h3⟩ | ⟨hq',h3⟩
   rw[kO r bK];exact NG.Jl r n h3;rw[qM q hq'];exact hs.Jl q n h3;simp only[c1] at h1 h2
   have key:∀r q,r < j->(∀r',r' < j->q≠σ r')->∀n cap sz n' cap' OL,c'.rows[r]?=some (.R1 g n cap sz)->cx.rows[q]?=some (.R1 g n' cap' OL)->False:=by
     intro r q bK hq' n cap sz n' cap' OL e1 e2;rcases Ms _ _ _ _ _ bK e1 with ⟨r0,n0,QS,lO,hr0,h4⟩ | h4
     exact hq' r0 hr0 (hs.IU _ _ _ _ _ _ _ _ _ e2 h4);have:=hs.NS e2;omega
   rcases VC q with ⟨r,bK,rfl⟩ | hq1<;>rcases VC q' with ⟨r2,hr2,rfl⟩ | hq2
   rw[kO r bK] at h1;rw[kO r2 hr2] at h2;rw[NG.IU _ _ _ _ _ _ _ _ _ h1 h2];rw[kO r bK] at h1;rw[qM q' hq2] at h2;exact(key r q' bK hq2 _ _ _ _ _ _ h1 h2).elim;rw[qM q hq1] at h1;rw[kO r2 hr2] at h2;exact(key r2 q hr2 hq1 _ _ _ _ _ _ h2 h1).elim;rw[qM q hq1] at h1;rw[qM q' hq2] at h2;exact hs.IU _ _ _ _ _ _ _ _ _ h1 h2
 refine⟨c1,ext,st1,?_⟩;cases r with
 | ret v =>
   cases r' with
   | ret v' =>
     obtain⟨u,rfl,hu'⟩:=vV;exact⟨u,rfl,Rn.up hup hr hu'⟩
   | pan v'=>exact hr.elim
 | pan v =>
   cases r' with
   | ret v'=>exact hr.elim
   | pan v' =>
     obtain⟨u,rfl,hu'⟩:=vV;exact⟨u,rfl,Rn.up hup hr hu'⟩
end AI
namespace AI
open Go Go.RowKit
def Ih:List Ao->Nat->List (Nat×Ao)->List (Nat×Ao)
 | [],_,acc=>acc
 | b::l,n,acc=>Ih l (n+1) ((n,b)::acc)
def sO:List Nat->Nat->List (Nat×Nat)
 | [],_=>[]
 | k::l,n=>(n,k)::sO l (n+1)
def acF{M:List Ao}:∀{n:Nat} {acc:List (Nat×Ao)} {i:Nat} {b:Ao},Kx acc n->look i (Ih M n acc)=some b->(n<=i/\M[i - n]?=some b)\/look i acc=some b:=by
 induction M with
 | nil=>intro n acc i b _ h;exact .inr h
 | cons x M ih =>
   intro n acc i b hd h;rcases ih (n:=n+1) (acc:=(n,x)::acc) ⟨bkM n,hd⟩ h with ⟨h1,h2⟩ | h1
   refine .inl ⟨by omega,?_⟩;rw[show i - n=(i - (n+1))+1 by omega];exact h2;simp only[look] at h1;split at h1;rename_i hb;have:=beq_true hb;subst this;cases h1;exact .inl ⟨aOC _,by simp⟩;exact .inr h1
def aaS{M:List Ao}:∀{n:Nat} {acc:List (Nat×Ao)},Kx acc n->Kx (Ih M n acc) (n+M.length):=by
 induction M with
 | nil=>intro n acc h;exact h
 | cons x M ih =>
   intro n acc h;have:=ih (n:=n+1) (acc:=(n,x)::acc) ⟨bkM n,h⟩;rw[Yy,show n+(M.length+1)=n+1+M.length by omega];exact this
def YJ{T:List Nat}:∀{n r k:Nat},DY r (sO T n)=some k->n<=r/\T[r - n]?=some k:=by
 induction T with
 | nil=>intro n r k h;cases h
 | cons x T ih =>
   intro n r k h;simp only[sO,DY] at h;split at h;rename_i hb;have:=beq_true hb;subst this;cases h;exact⟨aOC _,by simp⟩;obtain⟨h1,h2⟩:=ih h;refine⟨by omega,?_⟩;rw[show r - n=(r - (n+1))+1 by omega];exact h2
def oD{T:List Nat}:∀{n r:Nat},n<=r->r - n < T.length->∃k,DY r (sO T n)=some k:=by
 induction T with
 | nil=>intro n r _ h;simp at h
 | cons x T ih =>
   intro n r h1 h2;simp only[sO,DY];split;exact⟨_,rfl⟩;rename_i hb;have:=beq_false hb;exact ih (by omega) (by simp at h2;omega)
inductive ZW(k j:Nat)(ρ σ:Nat->Nat):List Ao->List (Nat×Ao)->Prop where
 | nil:ZW k j ρ σ [] []
 | cons {b b':Ao} {i:Nat} {l:List Ao} {m:List (Nat×Ao)} (h:tY k j ρ σ b b') (t:ZW k j ρ σ l m):ZW k j ρ σ (b::l) ((i,b')::m)
def ZW.len{k j:Nat}{ρ σ:Nat->Nat}{l:List Ao}{m:List (Nat×Ao)}(h:ZW k j ρ σ l m):l.length=m.length:=by
 induction h with
 | nil=>rfl
 | cons _ _ ih=>simp[ih]
def ZW.get{k j:Nat}{ρ σ:Nat->Nat}{l:List Ao}{m:List (Nat×Ao)}(h:ZW k j ρ σ l m):∀{i:Nat} {b:Ao},l[i]?=some b->∃e,m[i]?=some e/\tY k j ρ σ b e.2:=by
 induction h with
 | nil=>intro i b hb;simp at hb
 | cons h _ ih =>
   intro i b hb;cases i with
   | zero=>simp at hb;subst hb;exact⟨_,rfl,h⟩
   | succ i=>exact ih (by simpa using hb)
def ZW.bbT{k j:Nat}{ρ σ:Nat->Nat}{l:List Ao}{m:List (Nat×Ao)}(h:ZW k j ρ σ l m):∀{i:Nat} {e:Nat×Ao},m[i]?=some e->∃b,l[i]?=some b/\tY k j ρ σ b e.2:=by
 induction h with
 | nil=>intro i b hb;simp at hb
 | cons h _ ih =>
   intro i b hb;cases i with
   | zero=>simp at hb;subst hb;exact⟨_,rfl,h⟩
   | succ i=>exact ih (by simpa using hb)
def yX:∀(l:List (Nat×Ao)) (s:AS) (id:Nat) (b:Ao),(s.Zg l).get id=some b->(∃e∈l,e.1=id/\e.2=b)\/((∀e∈l,e.1≠id)/\s.get id=some b)
 | [],s,id,b,h=>.inr ⟨(λe he=>by cases he),h⟩
 | e::l,s,id,b,h=>by
   rcases yX l (s.put e.1 e.2) id b h with ⟨x,hx,h1⟩ | ⟨h1,h2⟩
   exact .inl ⟨x,bjI _ hx,h1⟩;rcases jC h2 with ⟨h3,h4⟩ | ⟨h3,h4⟩
   exact .inl ⟨e,bjW,h3.symm,h4.symm⟩;refine .inr ⟨λx hx=>?_,h4⟩;rcases biX.1 hx with rfl | hx
   exact λe=>h3 e.symm;exact h1 x hx
def oJ:∀(l:List (Nat×Ao)) (s:AS),(s.Zg l).nx=s.nx/\(s.Zg l).nr=s.nr/\(s.Zg l).F=s.F/\∀n,Kx s.h n->Kx (s.Zg l).h n
 | [],s=>⟨rfl,rfl,rfl,λ_ h=>h⟩
 | e::l,s=>by
   obtain⟨h1,h2,h3,h4⟩:=oJ l (s.put e.1 e.2);exact⟨h1,h2,h3,λn h=>h4 n (jB h)⟩
def mM:∀(l:List (Nat×Nat)) (s:AS) (q n:Nat),DY q (s.VB l).F=some n->(∃e∈l,e.1=q/\e.2=n)\/((∀e∈l,e.1≠q)/\DY q s.F=some n)
 | [],s,q,n,h=>.inr ⟨(λe he=>by cases he),h⟩
 | e::l,s,q,n,h=>by
   rcases mM l _ q n h with ⟨x,hx,h1⟩ | ⟨h1,h2⟩
   exact .inl ⟨x,bjI _ hx,h1⟩;rcases nV h2 with ⟨h3,h4,_⟩ | ⟨h3,h4⟩
   exact .inl ⟨e,bjW,h3.symm,h4.symm⟩;refine .inr ⟨λx hx=>?_,h4⟩;rcases biX.1 hx with rfl | hx
   exact λe=>h3 e.symm;exact h1 x hx
def eM:∀(l:List (Nat×Nat)) (s:AS),(s.VB l).nx=s.nx/\(s.VB l).nr=s.nr/\(s.VB l).h=s.h
 | [],s=>⟨rfl,rfl,rfl⟩
 | e::l,s=>eM l _
def eK:∀{l:List (Nat×Ao)} {s:AS},eH s l=PZ l->∀{i:Nat} {e:Nat×Ao},l[i]?=some e->s.get e.1=some e.2
 | [],s,_,i,e,he=>by simp at he
 | x::l,s,h,i,e,he=>by
   simp only[eH,PZ,bnR] at h;cases i with
   | zero=>simp at he;subst he;exact h.1
   | succ i=>exact eK h.2 (by simpa using he)
def vP:∀{l:List (Nat×Nat)} {F:List (Nat×Nat)},mJ F l=QO l->∀{i:Nat} {e:Nat×Nat},l[i]?=some e->DY e.1 F=some e.2
 | [],s,_,i,e,he=>by simp at he
 | x::l,s,h,i,e,he=>by
   simp only[mJ,QO,bnR] at h;cases i with
   | zero=>simp at he;subst he;exact h.1
   | succ i=>exact vP h.2 (by simpa using he)
mutual
inductive Occ(id:Nat):AV->Prop where
 | ptr {off:Nat}:Occ id (.ptr id off)
 | mp:Occ id (.mp id)
 | msl {off n:Nat}:Occ id (.msl id off n)
 | agg {cs:List AV} (h:UZ id cs):Occ id (.agg cs)
 | fn1 {f:Fn} {a b:List AV} (h:UZ id a):Occ id (.fn f a b)
 | fn2 {f:Fn} {a b:List AV} (h:UZ id b):Occ id (.fn f a b)
inductive UZ(id:Nat):List AV->Prop where
 | here {a:AV} {l:List AV} (h:Occ id a):UZ id (a::l)
 | there {a:AV} {l:List AV} (h:UZ id l):UZ id (a::l)
end
mutual
def Occ.CJ{c:Cx}{w:World}{id:Nat}:∀{a:AV} {v:Value},Occ id a->Rp c w a v->∃g,c.CJ[id]?=some (some g):=by
 intro a v ho h;cases ho with
 | ptr=>cases h with | ptr h1=>exact⟨_,h1⟩
 | mp=>cases h with | mp h1=>exact⟨_,h1⟩
 | msl=>cases h with | msl hn h1=>exact⟨_,h1⟩
 | agg h1=>cases h with | agg h2=>exact UZ.CJ h1 h2
 | fn1 h1=>cases h with | fn h2 h3=>exact UZ.CJ h1 h2
 | fn2 h1=>cases h with | fn h2 h3=>exact UZ.CJ h1 h3
def UZ.CJ{c:Cx}{w:World}{id:Nat}:∀{a:List AV} {v:List Value},UZ id a->Cv c w a v->∃g,c.CJ[id]?=some (some g):=by
 intro a v ho h;cases ho with
 | here h1=>cases h with | cons h2 _=>exact Occ.CJ h1 h2
 | there h1=>cases h with | cons _ h2=>exact UZ.CJ h1 h2
end
inductive Rch(args:List AV)(pre:List (Nat×Ao)):Nat->Prop where
 | arg {id:Nat} (h:UZ id args):Rch args pre id
 | box {i id p:Nat} {cs:List AV} (h:Rch args pre i) (hp:pre[p]?=some (i,.cells cs)) (ho:UZ id cs):Rch args pre id
def Rch.CJ{G:AK}{args:List AV}{pre:List (Nat×Ao)}{s:AS}(hb:eH s pre=PZ pre){cx:Cx}{w:World}{vs:List Value}(hs:St G cx w s)(ha:Cv cx w args vs){id:Nat}(h:Rch args pre id):∃g,cx.CJ[id]?=some (some g):=by
 induction h with
 | arg h=>exact h.CJ ha
 | box h hp ho ih =>
   obtain⟨g,hg⟩:=ih;obtain⟨o,_,hbo⟩:=hs.box _ g _ hg (eK hb hp);cases hbo with
   | GA ext hr=>exact ho.CJ hr
def JS{β:Type}(l:List (Nat×β))(i:Nat):Nat:=match l[i]? with
 | some e=>e.1
 | none=>0
def LN{β:Type}{l:List (Nat×β)}{i:Nat}{e:Nat×β}(h:l[i]?=some e):JS l i=e.1:=by unfold JS;rw[h]
def keys{β:Type}(l:List (Nat×β)):List Nat:=l.map (·.1)
def mW{β:Type}{l:List (Nat×β)}(h:(keys l).Nodup){i i':Nat}(hi:i < l.length)(N1:i' < l.length)(e:JS l i=JS l i'):i=i':=by
 have h1:(keys l)[i]?=some (JS l i):=by
   unfold keys;rw[biU,abI hi,LN (abI hi)];rfl
 have h2:(keys l)[i']?=some (JS l i'):=by
   unfold keys;rw[biU,abI N1,LN (abI N1)];rfl
 rw[<- e] at h2;exact akV h h1 h2
def Sd{β β':Type}{l:List (Nat×β)}{m:List (Nat×β')}(h:keys l=keys m)(i:Nat):JS l i=JS m i:=by
 have h1:=congrArg (λx=>x[i]?) h;unfold keys at h1;simp only[biU] at h1;unfold JS;cases hl:l[i]?<;>cases hm:m[i]?<;>rw[hl,hm] at h1<;>simp at h1<;>simp[h1]
def aNP{P:Program}{G:AK}(hG:∀g cs,G g=some cs->Bz cs=true){f:FuncId}{args dB:List AV}{r r':CR}{M M2:List Ao}{T T2:List Nat}(pre SM:List (Nat×Ao))(tp tu:List (Nat×Nat)){k j:Nat}
   (h:Sound P G (.call f args ⟨Ih M 0 [],k,sO T 0,j⟩ r ⟨Ih M2 0 [],k,sO T2 0,j⟩))
   (hk:M.length=k) (hj:T.length=j) (hj2:T2.length=j)
   (hku:keys SM=keys pre) (hkt:keys tu=keys tp) (hnb:(keys pre).Nodup) (hnt:(keys tp).Nodup)
   (htp:tp.map (·.2)=T) (htu:tu.map (·.2)=T2)
   (hb:ZW k j (JS pre) (JS tp) M pre) (hb2:ZW k j (JS pre) (JS tp) M2 SM)
   (GB:WX k j (JS pre) (JS tp) args dB)
   (hr:RnR k j (JS pre) (JS tp) r r')
   (bdY:∀e∈pre,Rch dB pre e.1):Cd.ok P G (.Ru f dB r' pre tp SM tu):=by
 intro s hgb hgf;have hpl:pre.length=k:=by rw[<- hb.len,hk]
 have htl:tp.length=j:=by rw[<- hj,<- htp,bjC]
 have hul:SM.length=k:=by
   have:=congrArg blU hku;simp only[keys,bjC] at this;omega
 have biH:tu.length=j:=by rw[<- hj2,<- htu,bjC]
 refine aNO hG h (by have:=aaS (M:=M) (n:=0) (acc:=[]) trivial;rw[bcD,hk] at this;exact this) (JS pre) (JS tp) (λi i' hi N1 e=>mW hnb (by omega) (by omega) e) (λi i' hi N1 e=>mW hnt (by omega) (by omega) e) GB (s:=s) (λi b hi hl=>?_) (λcx w vs hs ha i hi=>?_) (λq n hq hl=>?_) (λq hq=>?_) (λq n hl=>?_) hr ?_;rcases acF (acc:=[]) trivial hl with ⟨_,h1⟩ | h1
 rw[bnX] at h1;obtain⟨e,he,hn⟩:=hb.get h1;exact⟨e.2,by rw[LN he];exact eK hgb he,hn⟩;cases h1;have he:pre[i]?=some pre[i]:=abI (by omega);rw[LN he];exact(bdY _ (bcH he)).CJ hgb hs ha
 · obtain⟨_,h1⟩:=YJ hl
   rw[bnX,<- htp,biU] at h1;cases he:tp[q]? with
   | none=>rw[he] at h1;cases h1
   | some e =>
     rw[he] at h1;simp at h1;rw[LN he,<- h1];exact vP hgf he
 exact oD (bkI _) (by omega);obtain⟨_,h1⟩:=YJ hl;have:=(abH.1 h1).1;omega
 · obtain⟨a1,a2,a3,a4⟩:=oJ SM s
   obtain⟨b1,b2,b3⟩:=eM tu (s.Zg SM);refine⟨by rw[b1,a1],by rw[b2,a2],λn hd=>by rw[b3];exact a4 n hd,λid b hg=>?_,λq n hq=>?_⟩
   · have hg:(s.Zg SM).get id=some b:=by
       unfold AS.get at hg ⊢;rw[b3] at hg;exact hg
     rcases yX SM s id b hg with ⟨e,he,rfl,rfl⟩ | ⟨h1,h2⟩
     · obtain⟨i,hi⟩:=boI.1 he
       have hil:=(abH.1 hi).1;obtain⟨b0,hb0,hn⟩:=hb2.bbT hi;refine .inl ⟨i,b0,by omega,by rw[<- Sd hku,LN hi],?_,hn⟩
       have:∀(M:List Ao) (n:Nat) (acc:List (Nat×Ao)) (i:Nat) (b:Ao),M[i]?=some b->(∀e∈acc,e.1 < n)->look (n+i) (Ih M n acc)=some b:=by
         intro M
         induction M with
         | nil=>intro n acc i b h;simp at h
         | cons x M ih =>
           intro n acc i b h kL;cases i with
           | succ i =>
             have:=ih (n+1) ((n,x)::acc) i b (by simpa using h) (λe he=>by
               rcases biX.1 he with rfl | he
               exact bkM _;have:=kL e he;omega)
             rw[show n+(i+1)=n+1+i by omega];exact this
           | zero =>
             simp at h;subst h;simp only[Ih,bkH]
             have aXM:∀(M:List Ao) (n':Nat) (acc:List (Nat×Ao)),n < n'->look n (Ih M n' acc)=look n acc:=by
               intro M
               induction M with
               | nil=>intro n' acc _;rfl
               | cons y M ih2 =>
                 intro n' acc hlt;simp only[Ih];rw[ih2 (n'+1) _ (by omega)];simp only[look]
                 have:bjO n' n=false:=by
                   cases hq:bjO n' n with
                   | false=>rfl
                   | true=>have:=beq_true hq;omega
                 rw[this]
             rw[aXM M (n+1) _ (by omega)];simp only[look];rw[show bjO n n=true from bmB n]
       have:=this M2 0 [] i b0 hb0 (λe he=>by cases he);rwa[bcD] at this
     refine .inr ⟨λi hi e=>?_,h2⟩;have he:SM[i]?=some SM[i]:=abI (by omega);refine h1 _ (bcH he) ?_;rw[e,<- Sd hku,LN he]
   rcases mM tu _ q n hq with ⟨e,he,rfl,rfl⟩ | ⟨h1,h2⟩
   obtain⟨i,hi⟩:=boI.1 he;have hil:=(abH.1 hi).1;refine .inl ⟨i,by omega,by rw[<- Sd hkt,LN hi],?_⟩;obtain⟨kk,hkk⟩:=oD (T:=T2) (n:=0) (r:=i) (bkI _) (by omega);obtain⟨_,h3⟩:=YJ hkk;rw[bnX,<- htu,biU,hi] at h3;simp at h3;rw[hkk,h3];refine .inr ⟨λi hi e=>?_,by rw[<- a3];exact h2⟩;have he:tu[i]?=some tu[i]:=abI (by omega);refine h1 _ (bcH he) ?_;rw[e,<- Sd hkt,LN he]
end AI
namespace AI
open Go Go.RowKit
section
variable {P:Program} {G:AK}
def QM(G:AK)(s0:AS)(r0:CR)(s2:AS):CR->AS->Prop:=λr s'=>match r0 with
 | .ret v=>∃a,r=.ret a/\Frg G s0 [a] s' [v] s2
 | .pan v=>∃a,r=.pan a/\Frg G s0 [a] s' [v] s2
def adK(hm:P.follows .mixedOrders=true){f:FuncId}{args:List AV}{s0 s2:AS}{r0:CR}(h:WC P G (XS P G) H0 f args s0 (QM G s0 r0 s2)):Sound P G (.call f args s0 r0 s2):=by
 obtain⟨r,s',hj,hq⟩:=h;have hS:=sound (TU hm) hj;intro cx w vs hs GB;refine(hS cx w vs hs GB).mono ?_;rintro e w' ⟨c',hx,hs',vV⟩;cases r0 with
 | ret v =>
   obtain⟨a,rfl,hf⟩:=hq;obtain⟨u,rfl,hu⟩:=vV;obtain⟨c2,x2,Yk,f2⟩:=hf cx w c' w' [u] hx hs hs' (.cons hu .nil);cases f2 with
   | cons f3 _=>exact⟨c2,x2,Yk,u,rfl,f3⟩
 | pan v =>
   obtain⟨a,rfl,hf⟩:=hq;obtain⟨u,rfl,hu⟩:=vV;obtain⟨c2,x2,Yk,f2⟩:=hf cx w c' w' [u] hx hs hs' (.cons hu .nil);cases f2 with
   | cons f3 _=>exact⟨c2,x2,Yk,u,rfl,f3⟩
def W4(P:Program)(G:AK)(fn:Func)(m:Nat)(s0:AS)(Q:AX->List AV->AS->Prop)(v:AV)(s2:AS):Prop:=∀a s',Frg G s0 [a] s' [v] s2->Zq P fn m Q a s'
def Ym(G:AK)(m:Nat)(s0:AS)(Q:AX->List AV->AS->Prop)(v:AV)(s2:AS):Prop:=∀a s',Frg G s0 [a] s' [v] s2->lW m Q a s'
def W4.body{fn:Func}{m:Nat}{s0 s2:AS}{v:AV}:W4 P G fn m s0 (S0 P fn m (QM G s0 (.ret v) s2)) v s2:=λa s' hf=>.body ⟨a,rfl,hf⟩
def Ym.body{fn:Func}{m:Nat}{s0 s2:AS}{v:AV}:Ym G m s0 (S0 P fn m (QM G s0 (.pan v) s2)) v s2:=λa s' hf=>.body ⟨a,rfl,hf⟩
def W4.rnd{fn:Func}{m:Nat}{L:Code}{s0 s1 s2:AS}{Q:AX->List AV->AS->Prop}{v:AV}(h:W4 P G fn m s0 Q v s2):W4 P G fn m s0 (I9 P G L s1 Q) v s2:=h
def Ym.rnd{m:Nat}{L:Code}{s0 s1 s2:AS}{Q:AX->List AV->AS->Prop}{v:AV}(h:Ym G m s0 Q v s2):Ym G m s0 (I9 P G L s1 Q) v s2:=h
def Av{f:FuncId}{args:List AV}{v:AV}{pre:List (Nat×Ao)}{tp:List (Nat×Nat)}{SM:List (Nat×Ao)}{tu:List (Nat×Nat)}(h:Cd.ok P G (.Ru f args (.ret v) pre tp SM tu)):PC P G :=
 ⟨.u v pre tp SM tu,[.Ru f args (.ret v) pre tp SM tu,.eqx (PZ pre) (PZ pre) (QO tp) (QO tp)],⟨h,⟨rfl,rfl⟩,trivial⟩⟩
def aCT{f:FuncId}{args Zs:List AV}{v:AV}{pre:List (Nat×Ao)}{tp:List (Nat×Nat)}{SM:List (Nat×Ao)}{tu:List (Nat×Nat)}(w:Wn args Zs)(h:Cd.ok P G (.Ru f Zs (.ret v) pre tp SM tu)):PC P G :=
 ⟨.u v pre tp SM tu,[.Ru f args (.ret v) pre tp SM tu,.eqx (PZ pre) (PZ pre) (QO tp) (QO tp)],⟨λs h1 h2 cx wd vs hs ha=>h s h1 h2 cx wd vs hs (w.ok ha),⟨rfl,rfl⟩,trivial⟩⟩
def AE{f:FuncId}{args:List AV}{v:AV}{pre:List (Nat×Ao)}{tp:List (Nat×Nat)}{SM:List (Nat×Ao)}{tu:List (Nat×Nat)}(h:Cd.ok P G (.Ru f args (.pan v) pre tp SM tu)):PC P G :=
 ⟨.q v pre tp SM tu,[.Ru f args (.pan v) pre tp SM tu,.eqx (PZ pre) (PZ pre) (QO tp) (QO tp)],⟨h,⟨rfl,rfl⟩,trivial⟩⟩
def pz(c:Nat):PC P G:=⟨.z c,[],trivial⟩
def pza:PC P G:=⟨.za,[],trivial⟩
end
end AI
namespace AI
open Go Go.RowKit
mutual
def iZ{n m n2 m2:Nat}(h1:n<=n2)(h2:m<=m2):∀{a:AV},under n m a=true->under n2 m2 a=true
 | .sc _,_=>rfl
 | .agg cs,h=>by simp only[under] at h ⊢;exact J9 h1 h2 h
 | .E9 cs,h=>by simp only[under] at h ⊢;exact J9 h1 h2 h
 | .sl o k cs,h=>by
   simp only[under,bcA] at h ⊢;refine⟨?_,J9 h1 h2 h.2⟩;have h3:=h.1;cases o with
   | row r z=>simp only[decide_eq_true_eq] at h3 ⊢;omega
   | _=>rfl
 | .msl id _ _,h=>by simp only[under,decide_eq_true_eq] at h ⊢;omega
 | .el cs,h=>by simp only[under] at h ⊢;exact J9 h1 h2 h
 | .ptr id _,h=>by simp only[under,decide_eq_true_eq] at h ⊢;omega
 | .fn _ a b,h=>by simp only[under,bcA] at h ⊢;exact⟨J9 h1 h2 h.1,J9 h1 h2 h.2⟩
 | .ifc _ v,h=>by simp only[under] at h ⊢;exact iZ h1 h2 h
 | .mp id,h=>by simp only[under,decide_eq_true_eq] at h ⊢;omega
 | .any,_=>rfl
 | .raw _ _ _,_=>rfl
def J9{n m n2 m2:Nat}(h1:n<=n2)(h2:m<=m2):∀{a:List AV},Ey n m a=true->Ey n2 m2 a=true
 | [],_=>rfl
 | a::l,h=>by simp only[Ey,bcA] at h ⊢;exact⟨iZ h1 h2 h.1,J9 h1 h2 h.2⟩
end
def Wn.z{l m:List AV}(t:Wn l m):Wn (.sl .full 0 []::l) (.sl .lost 0 []::m):=.s rfl t
abbrev JJ:=List Value×List AV
def aRK:List Value->Nat->Value
 | [],_=>undef
 | v::_,0=>v
 | _::l,k+1=>aRK l k
def aYW:List AV->Nat->AV
 | [],_=>.sc undef
 | v::_,0=>v
 | _::l,k+1=>aYW l k
def jn(j:JJ)(k:Nat):Value:=aRK j.1 k
def gn(j:JJ)(k:Nat):AV:=aYW j.2 k
def frm:Nat->Nat->List (Nat×AV)->List Nat->Nat->List Nat->Nat->JJ->List AV
 | 0,_,_,_,_,_,_,_=>[]
 | n+1,p,l,bs,kb,gs,kg,j=>(match hd1 p l with
   | some v=>v::frm n (p+1) (l.drop 1) bs kb gs kg j
   | none=>(match hd2 p bs with
     | true=>.sc (jn j kb)::frm n (p+1) l (bs.drop 1) (kb+1) gs kg j
     | false=>(match hd2 p gs with
       | true=>gn j kg::frm n (p+1) l bs kb (gs.drop 1) (kg+1) j
       | false=>.any::frm n (p+1) l bs kb gs kg j)))
where
 hd1 (p:Nat):List (Nat×AV)->Option AV
   | []=>none
   | e::_=>(match bjO e.1 p with | true=>some e.2 | false=>none)
 hd2 (p:Nat):List Nat->Bool
   | []=>false
   | e::_=>bjO e p
structure Mm(κ ν:Type) where
 es:List (κ×ν×Nat)
 cl:Nat
section
variable {κ ν:Type} [DecidableEq κ]
def atJ(k:κ):List (κ×ν×Nat)->Nat->Option (Nat×ν)
 | [],_=>none
 | e::es,i=>if e.1=k then some (i,e.2.1) else atJ k es (i+1)
def Mm.get(m:Mm κ ν)(k:κ):Option ν:=(atJ k m.es 0).map (·.2)
def Mm.set(m:Mm κ ν)(k:κ)(v:ν):Mm κ ν:=match atJ k m.es 0 with
 | some (j,_)=>(match m.es[j]? with | some e=>⟨m.es.set j (k,v,e.2.2),m.cl⟩ | none=>m)
 | none=>⟨m.es++[(k,v,m.cl)],m.cl+1⟩
def Mm.nil:Mm κ ν:=⟨[],0⟩
end
structure bhM{κ:Type}[DecidableEq κ](d:TypeDesc)(kv:κ->Value):Prop where
 pk:plainKey d=true
 same:∀a b:κ,iG d (kv a) (kv b)=some (decide (b=a))
end AI
namespace AI
open Go Go.RowKit
section
variable {P:Program} {G:AK} {α:Type} {f:α->List AV} {C:List α->List AV} {k:Nat}
def Mi.ixm(_:Mi f C k){t elem:TypeId}(hu:P.underlying t=some (.slice elem))(hs:(P.info? elem).map (·.size)=some k){id n i:Nat}(h:i < n):CO P t (.msl id 0 n) (.sc (.int .i64 ((i:Nat):Int)))=some (.ptr id (0+i*k)):=by
 cases hi:P.info? elem with
 | none=>rw[hi] at hs;cases hs
 | some e =>
   rw[hi] at hs;have hk:e.size=k:=by simpa using hs
   have hn:Tc (.sc (.int .i64 ((i:Nat):Int)))=some i:=by unfold Tc;simp
   unfold CO;rw[hu,hn];simp only[hi];rw[if_pos h,hk]
def nW{l:List α}{i:Nat}(y:α)(h:i < l.length):l.set i y=l.take i++y::l.drop (i+1):=by
 rw[bnV,if_pos h]
def Mi.st(h:Mi f C k){e:TypeId}(hs:(P.info? e).map (·.size)=some k){l:List α}{i:Nat}{x:α}(hx:l[i]?=some x)(y:α){v:AV}(hv:cellsOf v=f y)(h1:(f y).all one=true):Cd.ok P G (.stB (.cells (C l)) e (0+i*k) v (.cells (C (l.set i y)))):=by
 intro s id hg;have hlt:=(abH.1 hx).1;have hle:i*k+k<=l.length*k:=by have:=blO k hlt;rw[bnH] at this;exact this
 cases hi:P.info? e with
 | none=>rw[hi] at hs;cases hs
 | some j =>
   rw[hi] at hs;have hk:j.size=k:=by simpa using hs
   unfold Lb;rw[hi];simp only[hg];rw[hv,hk,h.eq,bcD,if_pos ⟨h.len y,h1,by rw[IA h.len];exact hle⟩,h.eq];congr 3;unfold IB;rw[h.len y,ZO h.len,show i*k+k=(i+1)*k by rw[bnH],ZN h.len,nW y hlt,QH,Fv,atS]
end
end AI
namespace AI
open Go Go.RowKit
section
variable {P:Program} {G:AK}
def amZ{f:FuncId}{fn:Func}{c:Code}{args:List AV}{s s0 s2:AS}{m:Nat}{v:AV}(hf:P.funcs[f]?=some fn)(hb:fn.body=some c)(h:W P G (XS P G) H0 c (args++bkT (fn.ntmps - args.length) (.sc undef)) s (S0 P fn m (QM G s0 (.ret v) s2))):WC P G (XS P G) H0 f args s (λr s'=>QM G s0 (.ret v) s2 r (s'.cut m)):=by
 obtain⟨e,Yi,s1,h1,h2⟩:=h;cases e with
 | normal=>obtain⟨v,h3,h4⟩:=h2;exact⟨_,_,.body hf hb h1 (.inl rfl) h3 (.inr rfl),h4⟩
 | ret=>obtain⟨v,h3,h4⟩:=h2;exact⟨_,_,.body hf hb h1 (.inr rfl) h3 (.inr rfl),h4⟩
 | pan v=>obtain⟨a,ha,_⟩:=h2;cases ha
 | exit id=>exact h2.elim
def aSY(hm:P.follows .mixedOrders=true){f:FuncId}{args:List AV}{s0 s2:AS}{v:AV}{m:Nat}(h:WC P G (XS P G) H0 f args s0 (λr s'=>QM G s0 (.ret v) s2 r (s'.cut m))):Sound P G (.call f args s0 (.ret v) s2):=by
 obtain⟨r,s',hj,a,rfl,hf⟩:=h;have hS:=sound (TU hm) hj;intro cx w vs hs GB;refine(hS cx w vs hs GB).mono ?_;rintro e w' ⟨c',hx,hs',u,rfl,hu⟩;obtain⟨c2,x2,Yk,f2⟩:=hf cx w c' w' [u] hx hs (hs'.cut m) (.cons hu .nil);cases f2 with
 | cons f3 _=>exact⟨c2,x2,Yk,u,rfl,f3⟩
def aAC(hG:∀g cs,G g=some cs->Bz cs=true){s s' s2:AS}{fr' fr2:List AV}(hn:s.nx<=s2.nx)(hr:s.nr<=s2.nr)(hn2:s2.nx<=s'.nx)(hr2:s2.nr<=s'.nr)
   (hd:Kx s2.h s2.nx) (aOF:∀id b,look id s2.h=some b->∃b',look id s'.h=some b'/\Tw s2.nx s2.nr b' b) (hF:∀r n,DY r s2.F=some n->DY r s'.F=some n/\r < s2.nr)
   (hf:KF s2.nx s2.nr fr' fr2):Frg G s fr' s' fr2 s2:=by
 intro cx w c' w' vs hx hs hs' hfr;have hl1:=hs.len;have hl2:=hs'.len;have hl3:=hs.I8;have hl4:=hs'.I8
 have Tl:cx.CJ <+: c'.CJ.take s2.nx:=by
   obtain⟨t,ht⟩:=hx.CJ;rw[<- ht,brL,blS (by omega)];exact bnT _ _
 have hrl:(c'.rows.take s2.nr).length=s2.nr:=by rw[bjG];omega
 refine⟨c'.upto s2.nx s2.nr,⟨Tl,?_,λr x bK h=>hx.rows r x bK (Eh h).1,λg i v hv=>Ye (hx.lR g i v hv),hx.below,hx.base,hx.bad,λg hg=>hx.gI g (bkL hg),λr g n cap sz h=>hx.iA r g n cap sz (Eh h).1,hx.GY⟩,?_,hf _ _ _ hfr⟩;show cx.rows.length<=(c'.rows.take s2.nr).length;omega;refine⟨?_,hd,λi j g h1 h2=>hs'.nodup i j g (Eh h1).1 (Eh h2).1,λg hg=>hs'.low g (bkL hg),λid g b h1 h2=>?_,hrl.symm,λr g n cap sz h=>?_,λr n h=>?_,λg hg=>hs'.Np g (bkL hg),hs'.ND,λr r' g n cap sz n' cap' OL h h'=>hs'.IU r r' g n cap sz n' cap' OL (Eh h).1 (Eh h').1,λg cs hg=>(hs'.Mr g cs hg).upto (Eo _ _ (hG g cs hg)),hs'.R2,hs'.Ol.sub (λg hm=>bkL hm) λr g n cap sz e=>⟨r,n,cap,sz,(Eh e).1⟩⟩;show s2.nx=(c'.CJ.take s2.nx).length;rw[bjG];omega;obtain⟨b',h3,h4⟩:=aOF id b h2;obtain⟨o,ho,hb⟩:=hs'.box id g b' (Eh h1).1 h3;exact⟨o,ho,h4 _ _ _ hb⟩;obtain⟨a1,a2,a3,a4⟩:=hs'.row r g n cap sz (Eh h).1;exact⟨a1,a2,λhm=>a3 (bkL hm),a4⟩;obtain⟨h1,h2⟩:=hF r n h;rcases hs'.Jl r n h1 with ⟨h3,h4⟩ | ⟨g,cap,sz,h3⟩
 exact .inl ⟨SL h3 h2,h4⟩;exact .inr ⟨g,cap,sz,SL h3 h2⟩
def aDO(hG:∀g cs,G g=some cs->Bz cs=true){live:List Nat}{n m:Nat}{s0:AS}{fr':List AV}{s':AS}{fps:List (FP n m)}{fbs:List (FB n m)}{fr2:List AV}{s2:AS}(hn:s0.nx<=n)(hr:s0.nr<=m)(hn2:n<=s'.nx)(hr2:m<=s'.nr)(h:aSM live n m fr' s' (fpB fps) (fbB fbs)=some (fr2,s2,fpA fps,fbA fbs)):Frg G s0 fr' s' fr2 s2:=by
 unfold aSM at h;split at h;rename_i f1 as hm;split at h;rename_i h1 cas hb;simp only[aOE,biY] at h;obtain⟨rfl,rfl,rfl,rfl⟩:=h;intro cx w c' w' vs hx hs hs' hfr;obtain⟨hd,hl⟩:=azB hb;refine aAC (s:=s0) (s2:=⟨h1,n,TO m s'.F,m⟩) hG hn hr hn2 hr2 (hd _ (vD hs'.desc)) (λid b hb=>?_) (λr n hr=>vI hr) (aBW hm) cx w c' w' vs hx hs hs' hfr;obtain⟨b',h3,h4⟩:=hl id b hb;exact⟨b',VZ hs'.desc h3,h4⟩;cases h;cases h
def aWT(n:Nat):List Nat->Bool
 | []=>false
 | k::l=>bjO n k||aWT n l
def gG(ks:List Nat):List (Nat×Ao)->List (Nat×Ao)
 | []=>[]
 | e::l=>match aWT e.1 ks with
   | true=>e::gG ks l
   | false=>gG ks l
def Wj{ks:List Nat}:∀{l:List (Nat×Ao)} {n:Nat},Kx l n->Kx (gG ks l) n
 | [],_,_=>trivial
 | e::l,n,h=>by
   simp only[gG];split;exact⟨h.1,Wj h.2⟩;exact(Wj h.2).mono (Nat.le_of_lt h.1)
def Wk{ks:List Nat}{id:Nat}{b:Ao}:∀{l:List (Nat×Ao)} {n:Nat},Kx l n->look id (gG ks l)=some b->look id l=some b
 | [],_,_,h=>h
 | e::l,n,hd,h=>by
   simp only[gG] at h;split at h;simp only[look] at h ⊢;split at h;exact h;exact Wk hd.2 h;have h1:=Wk hd.2 h;have h2:=bQ hd.2 h1;simp only[look];split;rename_i hb;have:=beq_true hb;omega;exact h1
def AS.pick(s:AS)(ks:List Nat):AS:=⟨gG ks s.h,s.nx,s.F,s.nr⟩
def St.pick{c:Cx}{w:World}{s:AS}(h:St G c w s)(ks:List Nat):St G c w (s.pick ks) :=
 ⟨h.len,Wj h.desc,h.nodup,h.low,λid g b h1 h2=>h.box id g b h1 (Wk h.desc h2),h.I8,h.row,h.Jl,h.Np,h.ND,h.IU,h.Mr,h.R2,h.Ol⟩
def aJX(ks:List Nat)(live:List Nat)(n m0:Nat)(P:Program)(fn:Func)(m:Nat)(bs:List AV)(cs:List Ao):HR->Option (List Cd×List AV×AS×List AV×List Ao)
 | some (.fin .ret,[],cd,fr,s)=>(match F8 P s fn fr with
   | some v=>(match bmR n s.nx&&bmR m0 s.nr with
     | true=>(match aSM live n m0 [v] ((s.cut m).pick ks) bs cs with
       | some (fr2,s2,as,cas)=>some (cd,fr2,s2,as,cas)
       | none=>none)
     | false=>none)
   | none=>none)
 | _=>none
def aAI(hG:∀g cs,G g=some cs->Bz cs=true){r:HR}{X:Prop}{s0:AS}{Q:AX->List AV->AS->Prop}(fn:Func)(m:Nat){l:List (PC P G)}(ks:List Nat)(live:List Nat){n m0:Nat}(fps:List (FP n m0))(fbs:List (FB n m0))(v:AV)(s2:AS)(R:K9 P G l Q r X)(hn:s0.nx<=n)(hr:s0.nr<=m0)
   (h:aJX ks live n m0 P fn m (fpB fps) (fbB fbs) r=some (T8 l,[v],s2,fpA fps,fbA fbs)) (k:W4 P G fn m s0 Q v s2):X:=by
 unfold aJX at h;split at h;split at h;rename_i v' hv;split at h;rename_i hle;simp only[bcA] at hle;split at h;rename_i h1;simp only[aOE,biY] at h;obtain⟨rfl,rfl,rfl,rfl,rfl⟩:=h;exact R _ _ _ _ rfl (Pk l) (k _ _ (λcx w c' w' vs hx hs hs' hf=>aDO (s':=(AS.cut _ m).pick ks) hG hn hr (bcG hle.1) (bcG hle.2) h1 cx w c' w' vs hx hs (hs'.pick ks) hf) _ _ hv rfl);cases h;cases h;cases h;cases h
inductive RnH(dn dr nx nr:Nat):List (Nat×Ao)->List (Nat×Ao)->Prop where
 | nil:RnH dn dr nx nr [] []
 | cons {i:Nat} {b b':Ao} {l m:List (Nat×Ao)} (h:tY dn dr (λi=>nx+i) (λr=>nr+r) b b') (t:RnH dn dr nx nr l m):RnH dn dr nx nr ((i,b)::l) ((nx+i,b')::m)
def RnH.desc{dn dr nx nr:Nat}{l m h:List (Nat×Ao)}(hr:RnH dn dr nx nr l m)(hh:Kx h nx):∀{n:Nat},Kx l n->Kx (m++h) (nx+n):=by
 induction hr with
 | nil=>intro n _;exact hh.mono (Nat.le_add_right _ _)
 | cons h1 t ih=>intro n hd;exact⟨Nat.add_lt_add_left hd.1 _,ih hd.2⟩
def RnH.look{dn dr nx nr id:Nat}{b:Ao}{l m h:List (Nat×Ao)}(hr:RnH dn dr nx nr l m)(hb:AI.look id (m++h)=some b):(∃i b0,id=nx+i/\AI.look i l=some b0/\tY dn dr (λi=>nx+i) (λr=>nr+r) b0 b)\/AI.look id h=some b:=by
 induction hr with
 | nil=>exact .inr hb
 | @cons i b0 b1 l m h1 t ih =>
   simp only[bcE,AI.look] at hb;split at hb;rename_i he;cases hb;refine .inl ⟨i,b0,(beq_true he).symm,?_,h1⟩;simp only[AI.look];rw[bmB];rename_i he;have hne:=beq_false he;rcases ih hb with ⟨i',b',e,h2,h3⟩ | h2
   refine .inl ⟨i',b',e,?_,h3⟩;simp only[AI.look];split;rename_i h4;have:=beq_true h4;omega;exact h2;exact .inr h2
def akS{nr r n:Nat}{F:List (Nat×Nat)}:∀{F2:List (Nat×Nat)},DY r (F2.map (λp=>(nr+p.1,p.2))++F)=some n->(∃q,r=nr+q/\DY q F2=some n)\/DY r F=some n:=by
 intro F2
 induction F2 with
 | nil=>exact λh=>.inr h
 | cons x l ih =>
   intro h;simp only[bjM,bcE,DY] at h;split at h;rename_i he;cases h;refine .inl ⟨x.1,(beq_true he).symm,?_⟩;simp only[DY];rw[bmB];rename_i he;have hne:=beq_false he;rcases ih h with ⟨q,e,h2⟩ | h2
   refine .inl ⟨q,e,?_⟩;simp only[DY];split;rename_i h4;have:=beq_true h4;omega;exact h2;exact .inr h2
def aNN(hG:∀g cs,G g=some cs->Bz cs=true){f:FuncId}{args:List AV}{v v':AV}{h2 h3:List (Nat×Ao)}{dn dr nx nr:Nat}{F2:List (Nat×Nat)}(h:Sound P G (.call f args ⟨[],0,[],0⟩ (.ret v) ⟨h2,dn,F2,dr⟩))(hp:Bz args=true)
   (hv:Rn dn dr (λi=>nx+i) (λr=>nr+r) v v') (hb:RnH dn dr nx nr h2 h3):Cd.ok P G (.mC f args nx nr v' h3 dn (F2.map λp=>(nr+p.1,p.2)) dr):=by
 intro s hnx hnr cx w vs hs ha;subst hnx hnr;have hlp:=hs.len;have hlr:=hs.I8
 have IL:∀g i x,MD cx w g i x->MD ⟨w.heap.size,[],[],cx.lN⟩ w g i x:=by
   intro g i x hx;refine⟨hx.1,λGr=>?_,hx.2.2⟩;rcases Gr with Gr | ⟨r,n,cap,sz,hr,_⟩ | Gr
   cases Gr;simp at hr;exact hx.2.1 Gr
 have Fl:St G ⟨w.heap.size,[],[],cx.lN⟩ w ⟨[],0,[],0⟩ :=
   ⟨rfl,trivial,(λi j g h1=>by simp at h1),(λg hg=>by cases hg),(λid g b h1=>by simp at h1),rfl,(λr g n cap sz hr=>by simp at hr),(λr n hr=>by cases hr),(λg hg=>by cases hg),(λg i hb=>hs.WB hb),(λr r' g n cap sz n' cap' OL hr=>by simp at hr),(λg cs hg=>A1.plain IL (hG g cs hg) (hs.Mr g cs hg)),aOC _,hs.Ol.aRH⟩
 refine(h _ w vs Fl (Cv.plain IL hp ha)).mono ?_;rintro e w' ⟨c',hx,hs',u,rfl,hu⟩;have P8:=hx.below;have V6:Tv w w' (λ_=>False):=⟨P8.os,P8.tape,P8.output,P8.size,λk hk _=>P8.block k hk⟩;have hpn:∀g,some g∈c'.CJ->w.heap.size<=g:=λg hg=>(hx.gI g hg).resolve_left (by simp);have hrn:∀(r:Nat) g n cap sz,c'.rows[r]?=some (.R1 g n cap sz)->w.heap.size<=g:=λr g n cap sz hg=>(hx.iA r g n cap sz hg).resolve_left (by rintro⟨_,_,_,_,hh⟩;simp at hh);have hl2:dn=c'.CJ.length:=hs'.len;have hr2:dr=c'.rows.length:=hs'.I8;let c1:Cx:=⟨cx.base,cx.CJ++c'.CJ,cx.rows++c'.rows,cx.bad⟩
 have hpu:∀(i:Nat) g,c'.CJ[i]?=some (some g)->c1.CJ[s.nx+i]?=some (some g):=λi g hg=>by
   show(cx.CJ++c'.CJ)[s.nx+i]?=_;rw[bjY (by omega),show s.nx+i - cx.CJ.length=i by omega];exact hg
 have hru:∀(r:Nat) x,c'.rows[r]?=some x->c1.rows[s.nr+r]?=some x:=λr x hg=>by
   show(cx.rows++c'.rows)[s.nr+r]?=_;rw[bjY (by omega),show s.nr+r - cx.rows.length=r by omega];exact hg
 have hpc:∀(i:Nat) g,c1.CJ[i]?=some (some g)->(i < s.nx/\cx.CJ[i]?=some (some g))\/∃k,i=s.nx+k/\c'.CJ[k]?=some (some g):=λi g hg=>by
   have hg:(cx.CJ++c'.CJ)[i]?=some (some g):=hg;by_cases hi:i < cx.CJ.length;rw[bcF hi] at hg;exact .inl ⟨by omega,hg⟩;rw[bjY (by omega)] at hg;exact .inr ⟨i - cx.CJ.length,by omega,hg⟩
 have hrc:∀(i:Nat) x,c1.rows[i]?=some x->(i < s.nr/\cx.rows[i]?=some x)\/∃k,i=s.nr+k/\c'.rows[k]?=some x:=λi x hg=>by
   have hg:(cx.rows++c'.rows)[i]?=some x:=hg;by_cases hi:i < cx.rows.length;rw[bcF hi] at hg;exact .inl ⟨by omega,hg⟩;rw[bjY (by omega)] at hg;exact .inr ⟨i - cx.rows.length,by omega,hg⟩
 have hmc:∀g,some g∈c1.CJ->some g∈cx.CJ\/some g∈c'.CJ:=λg hg=>List.mem_append.1 hg;have Lz:∀g i,cx.lN g i->c'.lN g i:=λg i hh=>.inr (.inr (by rw[hx.bad];exact hh))
 have wD:∀g i x,MD c' w' g i x->MD c1 w' g i x:=by
   intro g i x wE;refine⟨wE.1,λGr=>wE.2.1 ?_,wE.2.2⟩;rcases Gr with Gr | ⟨q,n,cap,sz,hq,h1,h2⟩ | Gr
   rcases hmc g Gr with hm | hm
   exact Lz _ _ (.inl hm);exact .inl hm;rcases hrc q _ hq with ⟨_,h3⟩ | ⟨k,_,h3⟩
   exact Lz _ _ (.inr (.inl ⟨q,n,cap,sz,h3,h1,h2⟩));exact .inr (.inl ⟨k,n,cap,sz,h3,h1,h2⟩);exact Lz _ _ (.inr (.inr Gr))
 have ext:Ext cx w c1 w':=by
   refine⟨bnT _ _,by simp[c1],λq y hq hy=>?_,λg i x hv=>wD g i x (hx.lR g i x (IL g i x hv)),V6.below hs.R2 (λ_ hf=>hf.elim),rfl,rfl,λg hg=>?_,λq g n cap sz hq=>?_,λq hq hp hr=>V6.block q hq (λhf=>hf)⟩;rcases hrc q y hy with ⟨_,h3⟩ | ⟨k,h3,_⟩
   exact⟨y,h3,La.refl y⟩;omega;rcases hmc g hg with hm | hm
   exact .inl hm;exact .inr (hpn g hm);rcases hrc q _ hq with ⟨_,h3⟩ | ⟨k,_,h3⟩
   exact .inl ⟨_,_,_,_,h3⟩;exact .inr (hrn _ _ _ _ _ h3)
 have hup:Up dn dr (λi=>s.nx+i) (λr=>s.nr+r) c' w' c1 w':=⟨wD,λi g _ hg=>hpu i g hg,λq hq=>by
   have hq:q < c'.rows.length:=by omega
   exact⟨_,hru q _ (abI hq),abI hq⟩⟩
 have st1:St G c1 w' ⟨h3++s.h,s.nx+dn,F2.map (λp=>(s.nr+p.1,p.2))++s.F,s.nr+dr⟩:=by
   refine⟨by simp only[c1,V5];omega,hb.desc hs.desc hs'.desc,λi j g h1 h2=>?_,λg hg=>?_,λid g b h1 h2=>?_,by simp only[c1,V5];omega,λq g n cap sz hq=>?_,λq n hq=>?_,λg hg=>?_,λg i hb=>bcC (hs.ND g i hb) V6.size,λq q' g n cap sz n' cap' OL h1 h2=>?_,λg cs eZ=>(hs.Mr g cs eZ).mono ext,bjH hs.R2 V6.size,hs.Ol.mono ext⟩;rcases hpc i g h1 with ⟨_,a1⟩ | ⟨k,rfl,a1⟩<;>rcases hpc j g h2 with ⟨_,a2⟩ | ⟨k2,rfl,a2⟩
   exact hs.nodup _ _ _ a1 a2;have:=hs.NP (bcH a1);have:=hpn g (bcH a2);omega;have:=hs.NP (bcH a2);have:=hpn g (bcH a1);omega;rw[hs'.nodup _ _ _ a1 a2];rcases hmc g hg with hm | hm
   exact hs.low g hm;exact bjH hs.R2 (hpn g hm);rcases hb.look h2 with ⟨i,b0,rfl,h4,h5⟩ | h4
   rcases hpc _ g h1 with ⟨a0,_⟩ | ⟨k,a0,a1⟩
   omega;have:k=i:=by omega
   subst this;obtain⟨o,ho,hbo⟩:=hs'.box k g b0 a1 h4;exact⟨o,ho,h5.up hup hbo⟩;have hlt:=bQ hs.desc h4;rcases hpc _ g h1 with ⟨_,a1⟩ | ⟨k,a0,_⟩
   obtain⟨o,ho,hbo⟩:=hs.box id g b a1 h4;refine⟨o,?_,hbo.mono ext⟩;rw[V6.block g (aOA.1 ho).1 (λhf=>hf)];exact ho;omega;rcases hrc q _ hq with ⟨_,h3⟩ | ⟨k,_,h3⟩
   obtain⟨a1,a2,a3,a4,vs',T,a5,a6⟩:=hs.row _ _ _ _ _ h3;refine⟨a1,a2,λhm=>?_,a4,vs',T,?_,a6⟩;rcases hmc g hm with hm | hm
   exact a3 hm;have:=hpn g hm;have:=hs.NS h3;omega;rw[V6.block g (aOA.1 a5).1 (λhf=>hf)];exact a5;obtain⟨a1,a2,a3,a4,a5⟩:=hs'.row _ _ _ _ _ h3;have hge:=hrn _ _ _ _ _ h3;refine⟨λi hb=>?_,bjH hs.R2 hge,λhm=>?_,a4,a5⟩;have:=hs.ND _ _ hb;omega;rcases hmc g hm with hm | hm
   have:=hs.NP hm;omega;exact a3 hm;rcases akS hq with ⟨k,rfl,h4⟩ | h4
   rcases hs'.Jl k n h4 with ⟨h5,h6⟩ | ⟨g,cap,sz,h5⟩
   exact .inl ⟨hru _ _ h5,h6⟩;exact .inr ⟨g,cap,sz,hru _ _ h5⟩
   have key:∀x,cx.rows[q]?=some x->c1.rows[q]?=some x:=λx hh=>by
     show(cx.rows++c'.rows)[q]?=_;rw[bcF (abH.1 hh).1];exact hh
   rcases hs.Jl q n h4 with ⟨h5,h6⟩ | ⟨g,cap,sz,h5⟩
   exact .inl ⟨key _ h5,h6⟩;exact .inr ⟨g,cap,sz,key _ h5⟩;rcases hmc g hg with hm | hm
   exact bcC (hs.Np g hm) V6.size;exact hs'.Np g hm;rcases hrc q _ h1 with ⟨_,a1⟩ | ⟨k,rfl,a1⟩<;>rcases hrc q' _ h2 with ⟨_,a2⟩ | ⟨k2,rfl,a2⟩
   exact hs.IU _ _ _ _ _ _ _ _ _ a1 a2;have:=hs.NS a1;have:=hrn _ _ _ _ _ a2;omega;have:=hs.NS a2;have:=hrn _ _ _ _ _ a1;omega;rw[hs'.IU _ _ _ _ _ _ _ _ _ a1 a2]
 exact⟨c1,ext,st1,u,rfl,hv.up hup hu⟩
def aRX{f:FuncId}{args:List AV}{nx nr:Nat}{v:AV}{h:List (Nat×Ao)}{dn:Nat}{F:List (Nat×Nat)}{dr:Nat}(h1:Cd.ok P G (.mC f args nx nr v h dn F dr)):PC P G :=
 ⟨.cn v h dn F dr,[.mC f args nx nr v h dn F dr],⟨h1,trivial⟩⟩
end
end AI
namespace AI
open Go Go.RowKit
section
variable {P:Program} {G:AK}
def Mi.aaF{α:Type}{f:α->List AV}{C:List α->List AV}{k:Nat}(h:Mi f C k)(h1:∀x,(f x).all one=true)(m:List α):(C m).all one=true:=by
 rw[h.eq,bkN];intro a ha;obtain⟨x,_,hx⟩:=List.mem_flatMap.1 ha;exact bkN.1 (h1 x) a hx
def Mi.ga{α:Type}{f:α->List AV}{C:List α->List AV}{k:Nat}(h:Mi f C k){t tx e e2 by':Nat}(hu:P.underlying t=some (.slice e))(hux:P.underlying tx=some (.slice e2))(hi:(P.info? e).map (λi=>(i.size,i.bytes,i.zero.map (·.cells.size)))=some (k,by',some k))(hk:0 < k)(hb:by'<=10000)
   (own:Own) (l m:List α) {o:Own} (s:AS) (hm:m.length=0) (hlen:l.length+m.length<=100000000):Cd.ok P G (.WY s t tx (.sl own l.length (C l)) (.sl o m.length (C m)) (.sl own l.length (C l)) s):=by
 have hm0:m=[]:=biP hm;subst hm0;cases hq:P.info? e with
 | none=>rw[hq] at hi;cases hi
 | some i =>
   rw[hq] at hi;simp only[biQ,aOE,biY] at hi;obtain⟨h1,h2,h3⟩:=hi;cases hz:i.zero with
   | none=>rw[hz] at h3;cases h3
   | some z =>
     rw[hz] at h3;simp only[biQ,aOE] at h3;have hc:C []=[]:=by rw[h.eq];rfl
     have hll:(C l).length=l.length*k:=by rw[h.eq,IA h.len]
     refine⟨.sl own l.length (C l),?_,λc w u hr=>hr⟩
     have hs:ZZ P s i.size tx (.sl o ([]:List α).length (C []))=some (0,[]):=by
       unfold ZZ;rw[hux,hc];simp
     unfold LF;simp only[hu,hq,hz];rw[if_pos ⟨by rw[h3,h1],by omega⟩,hs];simp only[aOD] at hlen ⊢
     have hbb:(l.length+0)*i.bytes<=140737488355328:=by
       rw[h2];exact bjH (bpF hlen hb) (by decide)
     rw[if_pos ⟨by rw[hll,h1],rfl,hbb,by omega⟩,if_pos trivial]
def aMC{t tx e:TypeId}{i:TypeInfo}{z:Value}{b:AV}{m:Nat}{ns:List AV}(ht:P.underlying t=some (.slice e))(hi:P.info? e=some i)(hz:i.zero=some z)(aQA:∀s,ZZ P s i.size tx b=some (m,ns))(hm:m≠0)(ho:ns.all one=true)(hb:m*i.bytes<=140737488355328)(hl:m<=9223372036854775807)(s:AS):aLW P G t tx (.sl .full 0 []) b s (.msl s.nx 0 m) (s.new (.cells ns)):=by
 intro c w va vb ty hs ha hbv;obtain⟨news,hnr,hnl,hsi⟩:=pB hs (aQA s) hbv
 have abJ:∃A,va=.slice A 0 0:=by
   cases ha with
   | @sl0 _ A cap h0=>have:cap=0:=h0;subst this;exact⟨A,rfl⟩
   | @K6 _ _ cap g o _ hn hc ho=>have:cap=0:=ho;subst this;exact⟨_,rfl⟩
 obtain⟨A,rfl⟩:=abJ
 have hold:(bkE i.size 0 (.slice A 0 0)).run P { w with drawn:=w.drawn+1 }=.ok ([]:List Value).toArray { w with drawn:=w.drawn+1 }:=by
   cases A with
   | none=>simp[bkE]
   | some a=>simp[bkE,loadCells,loadCellsFrom]
 obtain⟨cap',eV,Tm⟩:=SH (ty:=ty) ht hi hz hsi hold (by omega) (by omega) (by rw[bcD];exact hb);rw[bcD] at eV Tm;obtain⟨x1,st1⟩:=hs.same (w':={ w with drawn:=w.drawn+1 }) ⟨rfl,rfl,rfl,aOC _,λ_ _ _=>rfl⟩
 have hbk:EA c { w with drawn:=w.drawn+1 } (.cells ns) (.cells (news++(bjN z.cells (cap' - m)).toList).toArray e (0,0)):=.GA _ (hnr.mono x1)
 obtain⟨x2,Yk⟩:=st1.new hbk
 have he:(([]++news).toArray++bjN z.cells (cap' - m))=(news++(bjN z.cells (cap' - m)).toList).toArray:=by
   apply bjQ;simp
 rw[he] at Tm;exact⟨_,_,_,Tm,x1.trans x2,Yk,.msl eV (by simp[hs.len])⟩
def pga{s:AS}{t tx:TypeId}{a b:AV}(h:Cd.ok P G (.WY s t tx a b a s)):PC P G:=⟨.a a s,[.WY s t tx a b a s],⟨h,trivial⟩⟩
def bgE{s:AS}{t tx:TypeId}{a b:AV}(h:Cd.ok P G (.WY s t tx a b a s)):PC P G:=⟨.ae a,[.WY s t tx a b a s],⟨h,trivial⟩⟩
end
end AI
namespace AI
open Go Go.RowKit
def aHU:Nat->Nat->List Nat->List Nat
 | 0,_,acc=>acc
 | k+1,n,acc=>match bmR n 1 with
   | true=>acc
   | false=>aHU k (n / 2) (n % 2::acc)
def sb(c:Code)(n:Nat):Code:=sub c (aHU 200 n [])
def wk1(a:AV):AV->AV
 | .any=>pQ a
 | .sl .lost _ _=>(match a with
   | .sl _ n cs=>.sl .lost n cs
   | a=>a)
 | _=>a
def aTT{c:Cx}{w:World}{a b:AV}{v:Value}(hr:Rp c w a v):Rp c w (wk1 a b) v:=by
 unfold wk1;split;exact mI hr;split;cases hr with
 | sl0 _=>exact .sl0 trivial
 | K6 hn hc _=>exact .K6 hn hc trivial
 exact hr;exact hr
def wkF:List AV->List AV->List AV
 | a::l,b::k=>wk1 a b::wkF l k
 | l,_=>l
def WV{c:Cx}{w:World}:∀{l k:List AV} {vs:List Value},Cv c w l vs->Cv c w (wkF l k) vs
 | [],k,_,h=>by cases k<;>exact h
 | a::l,[],_,h=>h
 | a::l,b::k,_,h=>by cases h with | cons h1 t=>exact .cons (aTT h1) (WV t)
section
variable {P:Program} {G:AK}
def Frg.wk{s0 s':AS}{fr' k:List AV}:Frg G s0 fr' s' (wkF fr' k) s':=λ_ _ c' _ _ hx _ hs' hfr=>⟨c',hx,hs',WV hfr⟩
def Y3(tgt:List AV):HR->Option (AX×List Cd×List AV×AS)
 | some (.fin e,[],cd,fr,s)=>some (e,cd,wkF fr tgt,s)
 | _=>none
def aWF{r:HR}{X:Prop}{L:Code}{s0:AS}{Q:AX->List AV->AS->Prop}{l:List (PC P G)}{fr2:List AV}{s2:AS}(R:K9 P G l (I9 P G L s0 Q) r X)(h:Y3 fr2 r=some (.normal,T8 l,fr2,s2))(k:WL P G (XS P G) H0 L fr2 s2 Q):X:=by
 unfold Y3 at h;split at h;simp only[aOE,biY] at h;obtain⟨rfl,rfl,h3,rfl⟩:=h;exact R _ _ _ _ rfl (Pk l) ⟨_,_,h3▸Frg.wk,k⟩;cases h
def aqG{r:HR}{X:Prop}{L:Code}{s0:AS}{Q:AX->List AV->AS->Prop}{l:List (PC P G)}{id:Nat}{fr2:List AV}{s2:AS}(R:K9 P G l (I9 P G L s0 Q) r X)(h:Y3 fr2 r=some (.exit id,T8 l,fr2,s2))(k:Q (.exit id) fr2 s2):X:=by
 unfold Y3 at h;split at h;simp only[aOE,biY] at h;obtain⟨rfl,rfl,h3,rfl⟩:=h;exact R _ _ _ _ rfl (Pk l) ⟨_,_,h3▸Frg.wk,k⟩;cases h
def kH(z:List NZ)(tgt:List AV):HR->Option (List Cd×Nat×Code×List KI×List AV×AS)
 | some (.at id c ks,[],cd,fr,s)=>(match nzs z fr s with
   | some (fr2,s2)=>some (cd,id,c,ks,wkF fr2 tgt,s2)
   | none=>none)
 | _=>none
def aAH{r:HR}{X:Prop}{Q:AX->List AV->AS->Prop}{l:List (PC P G)}(z:List NZ)(id:Nat)(L:Code)(ZD:List KI){fr2:List AV}{s2:AS}(R:K9 P G l Q r X)
   (h:kH z fr2 r=some (T8 l,id,L,ZD,fr2,s2)) (k:WL P G (XS P G) H0 L fr2 s2 (Eu id (CQ P G ZD Q))):X:=by
 unfold kH at h;split at h;split at h;rename_i fr3 s3 hz;simp only[aOE,biY] at h;obtain⟨rfl,rfl,rfl,rfl,h5,rfl⟩:=h;refine R _ _ _ _ rfl (Pk l) ?_;obtain⟨e3,fr4,s4,h3,h4⟩:=k;refine⟨e3,fr4,s4,.aKK (λcx w vs hs hr=>?_) h3,h4⟩;obtain⟨c2,x2,Yk,r2⟩:=auC hz cx w vs hs hr;exact⟨c2,x2,Yk,h5▸WV r2⟩;cases h;cases h
def jv(j:List Value)(k:Nat):Value:=aRK j k
def hdv(p:Nat):List (Nat×Value)->Option Value
 | []=>none
 | e::_=>(match bjO e.1 p with | true=>some e.2 | false=>none)
def jsN(j:List Value)(l:List (Nat×Value))(k:Nat):Nat->List Value
 | 0=>[]
 | n+1=>(match hdv k l with
   | some v=>v::jsN j (l.drop 1) (k+1) n
   | none=>jv j k::jsN j l (k+1) n)
def js(n:Nat)(j:List Value)(l:List (Nat×Value)):List Value:=jsN j l 0 n
def frQ:Nat->Nat->List (Nat×AV)->List Nat->Nat->List Value->List AV
 | 0,_,_,_,_,_=>[]
 | n+1,p,l,bs,kb,j=>(match frm.hd1 p l with
   | some v=>v::frQ n (p+1) (l.drop 1) bs kb j
   | none=>(match frm.hd2 p bs with
     | true=>.sc (jv j kb)::frQ n (p+1) l (bs.drop 1) (kb+1) j
     | false=>.any::frQ n (p+1) l bs kb j))
def fr(n:Nat)(l:List (Nat×AV))(bs:List Nat)(j:List Value):List AV:=frQ n 0 l bs 0 j
def exR{δ:Type}(Q:AX->List AV->AS->Prop)(id:Nat)(F:δ->List Value->List AV)(S:δ->AS)(d:δ):Prop:=∀j,Q (.exit id) (F d j) (S d)
section loops
variable {α γ δ ρ β:Type} {id:Nat} {L:Code} {ZD:List KI} {Q:AX->List AV->AS->Prop} {done:γ->δ} {X:Prop} {k:δ->Option β} {kr:ρ->Option β} {r:β}
def aVB(Rv:(AX->List AV->AS->Prop)->ρ->Prop){body:Nat->α->γ->Option (Lp γ δ ρ)}{l:List α}{i0:Nat}{x:γ}(F:Nat->γ->List Value->List AV)(S:γ->AS)(XF:δ->List Value->List AV)(SX:δ->AS)(j:List Value)
   (Xs:WL P G (XS P G) H0 L (F i0 x j) (S x) (Eu id (CQ P G ZD Q))->X)
   (hz:∀i x j,l.length<=i->exR (Eu id (CQ P G ZD Q)) id XF SX (done x)->W P G (XS P G) H0 L (F i x j) (S x) (I9 P G L (S x) (Eu id (CQ P G ZD Q))))
   (hs:∀i y x j r,l[i]?=some y->i < l.length->i < 9223372036854775807->RQ (λx'=>∀j',WL P G (XS P G) H0 L (F (i+1) x' j') (S x') (Eu id (CQ P G ZD Q))) (exR (Eu id (CQ P G ZD Q)) id XF SX) (Rv (Eu id (CQ P G ZD Q))) r->body i y x=some r->W P G (XS P G) H0 L (F i x j) (S x) (I9 P G L (S x) (Eu id (CQ P G ZD Q))))
   (hb:∀d j,k d=some r->CQ P G ZD Q .normal (XF d j) (SX d)) (hr:∀v,kr v=some r->Rv (Eu id (CQ P G ZD Q)) v) :
   (Cs l.length (Bs body done (l.drop i0) i0 x)).bind (H8 k kr)=some r->X:=λh=>by
 obtain⟨res,h1,h2⟩:=pF h;obtain⟨hl,h1⟩:=aQW h1;refine Xs (ayO l F (λ_ x _=>S x) (λ_=>True) (exR (Eu id (CQ P G ZD Q)) id XF SX) (Rv (Eu id (CQ P G ZD Q))) (λi x j _ h3 h4=>aaC (hz i x j h3 h4)) (λi y x j r _ h3 h4 h5 h6=>aaC (hs i y x j r h3 h4 (by omega) (by cases r with | nx _=>exact λj'=>h6 j' trivial | ex _=>exact h6 | rt _=>exact h6) h5)) i0 h1 ?_ j trivial)
 cases res with
 | inl d =>
   intro j;show CQ P G ZD Q (F3 id (.exit id)) _ _;rw[show F3 id (.exit id)=.normal from by simp[F3]];exact hb d j h2
 | inr v=>exact hr v h2
def aVC(Rv:(AX->List AV->AS->Prop)->ρ->Prop){body:γ->Option (Lp γ δ ρ)}{x:γ}(F:γ->List Value->List AV)(S:γ->AS)(XF:δ->List Value->List AV)(SX:δ->AS)(j:List Value)
   (Xs:WL P G (XS P G) H0 L (F x j) (S x) (Eu id (CQ P G ZD Q))->X)
   (hs:∀x j r,RQ (λx'=>∀j',WL P G (XS P G) H0 L (F x' j') (S x') (Eu id (CQ P G ZD Q))) (exR (Eu id (CQ P G ZD Q)) id XF SX) (Rv (Eu id (CQ P G ZD Q))) r->body x=some r->W P G (XS P G) H0 L (F x j) (S x) (I9 P G L (S x) (Eu id (CQ P G ZD Q))))
   (hb:∀d j,k d=some r->CQ P G ZD Q .normal (XF d j) (SX d)) (hr:∀v,kr v=some r->Rv (Eu id (CQ P G ZD Q)) v) :
   (JI body x).bind (H8 k kr)=some r->X:=λh=>by
 obtain⟨res,h1,h2⟩:=pF h;obtain⟨n,h1⟩:=azZ h1;refine Xs (ayP F (λx _=>S x) (λ_=>True) (exR (Eu id (CQ P G ZD Q)) id XF SX) (Rv (Eu id (CQ P G ZD Q))) (λx j r _ h5 h6=>aaC (hs x j r (by cases r with | nx _=>exact λj'=>h6 j' trivial | ex _=>exact h6 | rt _=>exact h6) h5)) n h1 ?_ j trivial)
 cases res with
 | inl d =>
   intro j;show CQ P G ZD Q (F3 id (.exit id)) _ _;rw[show F3 id (.exit id)=.normal from by simp[F3]];exact hb d j h2
 | inr v=>exact hr v h2
end loops
def bgM{ks:List KI}{fr:List AV}{s:AS}{Q:AX->List AV->AS->Prop}(n:Nat)(l:List (PC P G)):K9 P G l Q (P7 (U4 P G n) ks .normal (pHs l) fr s) (CQ P G ks Q .normal fr s):=λ_ _ _ _ h hc hk=>afH (afI n) ks _ h hc hk
def pi{i:Nat}(h:i < 9223372036854775807):PC P G:=bgF i h
def pure_nil{f:FuncId}{n:Nat}{cs:List AV}{v:AV}(h1:n=0->cs=[]->Pure P G f [.sl .nil 0 []] v)(h2:Pure P G f [.sl .nn n cs] v):Pure P G f [.sl .lost n cs] v:=λs cx w vs hs ha=>by
 cases ha with
 | cons h t =>
   cases h with
   | @sl0 _ A cap _ =>
     cases hA:A.isNone with
     | true=>exact h1 rfl rfl s cx w _ hs (.cons (.sl0 hA) t)
     | false=>exact h2 s cx w _ hs (.cons (.sl0 hA) t)
   | K6 hn hc _=>exact h2 s cx w _ hs (.cons (.K6 hn hc trivial) t)
def aZE{n:Nat}{l:List AV}(h:Bz l=true):plain (.sl .nn n l)=true:=by simp only[plain,h];rfl
end
end AI
namespace AI
open Go Go.RowKit
section
variable {P:Program} {G:AK}
def aeC(G:AK)(s:AS)(a v:AV):Prop:=∀(c:Cx) (w:World) (u:Value),St G c w s->(∀g,some g∈c.CJ->∀i,¬c.bad g i)->Rp c w a u->Rp (c.upto 0 0) w v u
inductive Fz(s:AS):List AV->List AV->Prop where
 | nil:Fz s [] []
 | r {a b:AV} {l k:List AV} (h:Fits 0 0 a b) (t:Fz s l k):Fz s (a::l) (b::k)
 | f {id n:Nat} {cs l k:List AV} (h:s.get id=some (.cells cs)) (hp:Bz cs=true) (t:Fz s l k):Fz s (.msl id 0 n::l) (.sl .lost n cs::k)
 | g {cs ds l k:List AV} (h:Fz s cs ds) (t:Fz s l k):Fz s (.agg cs::l) (.agg ds::k)
 | u {cs ds l k:List AV} (h:Fz s cs ds) (t:Fz s l k):Fz s (.E9 cs::l) (.E9 ds::k)
def Fz.ok{s:AS}{c:Cx}{w:World}(hs:St G c w s)(hb:∀g,some g∈c.CJ->∀i,¬c.bad g i){l k:List AV}(h:Fz s l k):∀{us:List Value},Cv c w l us->Cv (c.upto 0 0) w k us:=by
 induction h with
 | nil=>intro us hr;cases hr;exact .nil
 | r h _ ih=>intro us hr;cases hr with | cons h1 t=>exact .cons (h _ _ _ h1) (ih t)
 | @f id n cs l k h hp _ ih =>
   intro us hr;cases hr with
   | cons h1 t =>
     refine .cons ?_ (ih t);cases h1 with
     | @msl _ _ _ g cap hn hid =>
       obtain⟨vs,ext,T,hw,hv⟩:=Rr hs hid h;have hg:=bcH hid
       have IL:∀g i v,MD c w g i v->MD (c.upto 0 0) w g i v:=λg i v hv=>⟨hv.1,λGr=>by
         rcases Gr with Gr | ⟨r,n',cap',OL,hr,_⟩ | Gr
         simp[Cx.upto] at Gr;simp[Cx.upto] at hr;exact hv.2.1 (.inr (.inr Gr)),hv.2.2⟩
       refine .K6 hn (A1.Qw (Cv.plain IL hp hv) (λi v hi=>?_)) trivial;rw[bcD];refine⟨hs.Np g hg,λGr=>?_,cell_of_heap hw (UE hi)⟩;rcases Gr with Gr | ⟨r,n',cap',OL,hr,_⟩ | Gr
       simp[Cx.upto] at Gr;simp[Cx.upto] at hr;exact hb g hg i Gr
 | g _ _ ih1 ih2=>intro us hr;cases hr with | cons h1 t=>cases h1 with | agg h2=>exact .cons (.agg (ih1 h2)) (ih2 t)
 | u _ _ ih1 ih2=>intro us hr;cases hr with | cons h1 t=>cases h1 with | E9 h2=>exact .cons (.E9 (ih1 h2)) (ih2 t)
def aeC.of{s:AS}{a v:AV}(h:Fz s [a] [v]):aeC G s a v:=λc w u hs hb hr=>by
 have:=h.ok hs hb (.cons hr .nil);cases this with
 | cons h1 _=>exact h1
def bgG{t tx:TypeId}{a b:AV}{n:Nat}{m:Ao}(h:Cd.ok P G (.apB t tx a b n m)):PC P G:=⟨.mb n m,[.apB t tx a b n m],⟨h,trivial⟩⟩
def Mi.apm{α:Type}{f:α->List AV}{C:List α->List AV}{k:Nat}(h:Mi f C k){t tx e e2 by':Nat}(hu:P.underlying t=some (.slice e))(hux:P.underlying tx=some (.slice e2))(hi:(P.info? e).map (λi=>(i.size,i.bytes,i.zero.map (·.cells.size)))=some (k,by',some k))(hk:0 < k)(hb:by'<=10000)(h1:∀x,(f x).all one=true)
   (m:List α) {o:Own} (hm:¬m.length=0) (hlen:m.length<=100000000):Cd.ok P G (.apB t tx (.sl .full 0 []) (.sl o m.length (C m)) m.length (.cells (C m))):=by
 cases hq:P.info? e with
 | none=>rw[hq] at hi;cases hi
 | some i =>
   rw[hq] at hi;simp only[biQ,aOE,biY] at hi;obtain⟨h3,h4,h5⟩:=hi;cases hz:i.zero with
   | none=>rw[hz] at h5;cases h5
   | some z =>
     intro s;refine aMC hu hq hz (λs=>?_) hm (h.aaF h1 m) (by rw[h4];exact bjH (bpF hlen hb) (by decide)) (by omega) s;unfold ZZ;rw[hux,h3];simp only[h.eq,IA h.len,if_true]
end
end AI
namespace AI
open Go
end AI
namespace AI
open Go Go.RowKit
end AI
namespace AI
open Go Go.RowKit
abbrev EW:=Cx->World->Prop
abbrev QE:=AX->List AV->AS->EW->Prop
def EOk(e:AX)(fr:List AV)(c:Cx)(w:World)(e':Exit)(a:Act):Prop:=match e with
 | .normal=>e'=.normal/\Cv c w fr a.tmps.toList
 | .exit id=>e'=.exit id/\Cv c w fr a.tmps.toList
 | .ret=>e'=.ret/\Cv c w fr a.tmps.toList
 | .pan v=>∃u,e'=.panic [{ v:=u,recovered:=false }]/\Rp c w v u
def EPost(G:AK)(Q:QE)(K:Exit->Act->World->Prop):Prop:=∀e fr s E,Q e fr s E->∀(cx:Cx) (w:World) (a:Act) (e':Exit),E cx w->St G cx w s->a.defers=[]->EOk e fr cx w e' a->K e' a w
def WE(P:Program)(G:AK)(E:EW)(c:Code)(fr:List AV)(s:AS)(Q:QE):Prop:=∀(cx:Cx) (w:World) (a:Act) (K:Exit->Act->World->Prop),E cx w->St G cx w s->Cv cx w fr a.tmps.toList->a.defers=[]->EPost G Q K->c.wp P K a w
def Rj(P:Program)(G:AK)(E:EW)(ops:Array Oper)(l:List Nat)(fr:List AV)(s:AS)(Q:QE):Prop:=∀(cx:Cx) (w:World) (a:Act) (K:Exit->Act->World->Prop),E cx w->St G cx w s->Cv cx w fr a.tmps.toList->a.defers=[]->EPost G Q K->wpOps P ops K l a w
def W2(E:EW):Prop:=∀(cx:Cx) (w:World) (Tf:Cx) (w':World),E cx w->Ext cx w Tf w'->E Tf w'
def EOk.RH{e:AX}{fr:List AV}{c:Cx}{w:World}{e':Exit}{a:Act}(h:EOk e fr c w e' a)(he:e≠.normal):e'≠.normal:=by
 cases e with
 | normal=>exact absurd rfl he
 | exit id=>intro h5;rw[h.1] at h5;cases h5
 | ret=>intro h5;rw[h.1] at h5;cases h5
 | pan v=>obtain⟨u,h5,_⟩:=h;intro h6;rw[h5] at h6;cases h6
section
variable {P:Program} {G:AK} {E:EW} {fr:List AV} {s:AS} {Q:QE}
def WE.of(hm:P.follows .mixedOrders=true)(hk:W2 E){c:Code}{Q0:AX->List AV->AS->Prop}(h:W P G (XS P G) H0 c fr s Q0)(hQ:∀e fr' s',Q0 e fr' s'->Q e fr' s' E):WE P G E c fr s Q:=by
 obtain⟨e,fr',s',hj,hq⟩:=h;have hS:=sound (TU hm) hj;intro cx w a K hE hs hf hd hK;refine hS cx w a K hs hf hd ?_;rintro e' a' w' ⟨c',hx,hs',Th,h4⟩;refine hK e fr' s' E (hQ _ _ _ hq) c' w' a' e' (hk _ _ _ _ hE hx) hs' Th ?_;cases e<;>exact h4
def WE.seq{x y:Code}(h:WE P G E x fr s (λe fr' s' E'=>(e=.normal/\WE P G E' y fr' s' Q)\/(e≠.normal/\Q e fr' s' E'))):WE P G E (.seq x y) fr s Q:=by
 intro cx w a K hE hs hf hd hK;refine wp_seq (h cx w a _ hE hs hf hd ?_);rintro e fr' s' E' hq Tf w' a' e' vQ hs' Th MG;rcases hq with ⟨rfl,h2⟩ | ⟨hne,hq⟩
 obtain⟨rfl,jV⟩:=MG;exact h2 Tf w' a' K vQ hs' jV Th hK;exact X7 (MG.RH hne) (hK _ _ _ _ hq _ _ _ _ vQ hs' Th MG)
def WE.cond{q:Operand}{x y:Code}{t:Bool}(hq:AZ G fr q=some (.sc (.bool t)))(h:WE P G E (if t then x else y) fr s Q):WE P G E (.cond q x y) fr s Q:=by
 intro cx w a K hE hs hf hd hK;have hr:=EB hs hf hq
 have Je:a.eval q=.bool t:=by
   generalize a.eval q=v at hr;cases hr;rfl
 exact wp_cond Je (h cx w a K hE hs hf hd hK)
def WE.skip(h:Q .normal fr s E):WE P G E .skip fr s Q:=λcx w a K hE hs hf hd hK=>wp_skip (hK _ _ _ _ h cx w a _ hE hs hd ⟨rfl,hf⟩)
def WE.exit{id:Nat}(h:Q (.exit id) fr s E):WE P G E (.exit id) fr s Q:=λcx w a K hE hs hf hd hK=>wp_exit (hK _ _ _ _ h cx w a _ hE hs hd ⟨rfl,hf⟩)
def WE.block{id:Nat}{c:Code}(h:WE P G E c fr s (λe fr' s' E'=>Q (F3 id e) fr' s' E')):WE P G E (.block id c) fr s Q:=by
 intro cx w a K hE hs hf hd hK;refine wp_block (h cx w a _ hE hs hf hd ?_);rintro e fr' s' E' hq Tf w' a' e' vQ hs' Th h4;cases e with
 | normal=>obtain⟨rfl,h5⟩:=h4;exact hK _ _ _ _ hq Tf w' a' _ vQ hs' Th ⟨rfl,h5⟩
 | exit S4 =>
   obtain⟨rfl,h5⟩:=h4;show if S4=id then K .normal a' w' else K (.exit S4) a' w'
   by_cases hid:S4=id;rw[if_pos hid];refine hK _ _ _ _ hq Tf w' a' _ vQ hs' Th ?_;simp only[F3,hid,if_true];exact⟨rfl,h5⟩;rw[if_neg hid];refine hK _ _ _ _ hq Tf w' a' _ vQ hs' Th ?_;simp only[F3,hid,if_false];exact⟨rfl,h5⟩
 | ret=>obtain⟨rfl,h5⟩:=h4;exact hK _ _ _ _ hq Tf w' a' _ vQ hs' Th ⟨rfl,h5⟩
 | pan v=>obtain⟨u,rfl,h5⟩:=h4;exact hK _ _ _ _ hq Tf w' a' _ vQ hs' Th ⟨u,rfl,h5⟩
def WE.loop{L:Code}(I:Nat->List AV->AS->EW->Prop)(h:∀m fr s E,I m fr s E->WE P G E L fr s (λe fr' s' E'=>(e=.normal/\∃m',m' < m/\I m' fr' s' E')\/(e≠.normal/\Q e fr' s' E'))){m:Nat}(hi:I m fr s E):WE P G E (.loop L) fr s Q:=by
 have key:∀(n m:Nat) (fr:List AV) (s:AS) (E:EW),m < n->I m fr s E->∀(cx:Cx) (w:World) (a:Act) (K:Exit->Act->World->Prop),E cx w->St G cx w s->Cv cx w fr a.tmps.toList->a.defers=[]->EPost G Q K->Code.rounds P L K n a w:=by
   intro n
   induction n with
   | zero=>intro m fr s E hm;omega
   | succ n ih =>
     intro m fr s E hm hi cx w a K hE hs hf hd hK;rw[rounds_succ];refine h m fr s E hi cx w a _ hE hs hf hd ?_;rintro e fr' s' E' hq Tf w' a' e' vQ hs' Th MG;rcases hq with ⟨rfl,m',hm',N1⟩ | ⟨hne,hq⟩
     obtain⟨rfl,jV⟩:=MG;exact ih m' fr' s' E' (by omega) N1 Tf w' a' K vQ hs' jV Th hK;exact X7 (MG.RH hne) (hK _ _ _ _ hq _ _ _ _ vQ hs' Th MG)
 intro cx w a K hE hs hf hd hK;exact wp_loop_rounds (m+1) (key (m+1) m fr s E (bkM m) hi cx w a K hE hs hf hd hK)
def WE.region{id:Nat}{ops:Array Oper}(h:Rj P G E ops (bjR ops.size) fr s Q):WE P G E (.region id ops false) fr s Q:=λcx w a K hE hs hf hd hK=>wp_region (h cx w a K hE hs hf hd hK)
def Rj.nil{ops:Array Oper}(h:Q .normal fr s E):Rj P G E ops [] fr s Q:=λcx w a K hE hs hf hd hK=>hK _ _ _ _ h cx w a .normal hE hs hd ⟨rfl,hf⟩
def Rj.op(hm:P.follows .mixedOrders=true)(hk:W2 E){ops:Array Oper}{i:Nat}{l:List Nat}{o:Oper}(v:AV){s1:AS}(ho:ops[i]?=some o)(hj:J P G (XS P G) H0 (.op ops o fr s (.ret v) s1))(t:Rj P G E ops l (IW fr o.dst v) s1 Q):Rj P G E ops (i::l) fr s Q:=by
 intro cx w a K hE hs hf hd hK;refine MB ho (sound (TU hm) hj cx w a _ _ hs (λx _=>rP hs hf x) (O0 (c:=cx) (w:=w) (λ_ _ _ _ _=>⟨fr,hf,rfl⟩)) ?_);intro u w' c' hx hs' hu;exact t c' w' (a.put o.dst u) K (hk _ _ _ _ hE hx) hs' (Qm (hf.mono hx) hu) (by cases o.dst<;>exact hd) hK
def Rj.sem{E':EW}{ops:Array Oper}{i:Nat}{l:List Nat}{o:Oper}{fr2:List AV}(v:AV){s2:AS}(ho:ops[i]?=some o)(hg:o.guard=none)
   (h:∀(cx:Cx) (w:World) (a:Act),E cx w->St G cx w s->Cv cx w fr a.tmps.toList->∃u w' Tf,(execOp a.eval o).run P w=.ok (.value u) w'/\E' Tf w'/\St G Tf w' s2/\Cv Tf w' fr2 a.tmps.toList/\Rp Tf w' v u)
   (t:Rj P G E' ops l (IW fr2 o.dst v) s2 Q):Rj P G E ops (i::l) fr s Q:=by
 intro cx w a K hE hs hf hd hK;refine MB ho ?_;obtain⟨u,w',Tf,hr,vQ,hs',jV,hu⟩:=h cx w a hE hs hf;unfold Ny;have hw:bkX o (yielded ops a.tmps)=true:=by unfold bkX;rw[hg]
 rw[hw];simp only[if_true];unfold boB;rw[hr];exact t Tf w' (a.put o.dst u) K vQ hs' (Qm jV hu) (by cases o.dst<;>exact hd) hK
end
def aUO(b:Nat)(B:Nat->Nat->Prop)(w0:World)(E:EW):Prop:=∀(c:Cx) (w:World),E c w->c.base=b/\Below b w0 w/\(∀g i,B g i->c.bad g i)/\∀g i,some g∈c.CJ->c.bad g i->g < b
def E0(b:Nat)(B:Nat->Nat->Prop)(w0:World):EW:=λc w=>c.base=b/\c.bad=B/\Below b w0 w
def E0.GY{b:Nat}{B:Nat->Nat->Prop}{w0:World}:W2 (E0 b B w0):=λcx w Tf w' h hx=>⟨hx.base.trans h.1,hx.bad.trans h.2.1,h.2.2.trans (by have:=hx.below;rw[h.1] at this;exact this)⟩
def aZH{P:Program}{G:AK}(hm:P.follows .mixedOrders=true)(hG:∀g cs,G g=some cs->Bz cs=true){f:FuncId}{fn:Func}{c:Code}{args:List AV}{v:AV}(hf:P.funcs[f]?=some fn)(hb:fn.body=some c)
   (h:∀(b:Nat) (B:Nat->Nat->Prop) (w0:World),(∀g i,B g i->g < b)->WE P G (E0 b B w0) c (args++bkT (fn.ntmps - args.length) (.sc undef)) s0 (λe fr' s' E'=>(e=.normal\/e=.ret)/\aUO b B w0 E'/\∃a,F8 P s' fn fr'=some a/\aeC G s' a v))
   (hp:Bz args=true) (hv:plain v=true):Pure P G f args v:=by
 intro s cx w vs hs GB
 have IL:∀g i x,MD cx w g i x->MD ⟨w.heap.size,[],[],cx.lN⟩ w g i x:=by
   intro g i x hx;refine⟨hx.1,λGr=>?_,hx.2.2⟩;rcases Gr with Gr | ⟨r,n,cap,sz,hr,_⟩ | Gr
   cases Gr;simp at hr;exact hx.2.1 Gr
 have Fl:St G ⟨w.heap.size,[],[],cx.lN⟩ w s0 :=
   ⟨rfl,trivial,(λi j g h1=>by simp at h1),(λg hg=>by cases hg),(λid g b h1=>by simp at h1),rfl,(λr g n cap sz hr=>by simp at hr),(λr n hr=>by cases hr),(λg hg=>by cases hg),(λg i hb=>hs.WB hb),(λr r' g n cap sz n' cap' OL hr=>by simp at hr),(λg cs hg=>A1.plain IL (hG g cs hg) (hs.Mr g cs hg)),aOC _,hs.Ol.aRH⟩
 have hl:=GB.len;refine calls_of_wp hf hb (h w.heap.size cx.lN w (λg i hb=>hs.WB hb) ⟨w.heap.size,[],[],cx.lN⟩ w _ _ ⟨rfl,rfl,Below.refl _ _⟩ Fl ?_ rfl ?_);simp only[Array.toList_append,Array.toList_replicate];rw[show vs.toArray.size=args.length by rw[bkR,hl]];exact(Cv.plain IL hp GB).append (Cv.replicate (.sc rfl) _);rintro e fr' s' E' ⟨he,TW,a0,hr,hft⟩ c' w' a' e' vQ NG Th MG;obtain⟨h1,P8,h3,h4⟩:=TW c' w' vQ
 have bdZ:Cv c' w' fr' a'.tmps.toList/\(e'=.normal\/e'=.ret):=by
   rcases he with rfl | rfl
   exact⟨MG.2,.inl MG.1⟩;exact⟨MG.2,.inr MG.1⟩
 obtain⟨hf5,he'⟩:=bdZ;obtain⟨u,h6,h7⟩:=TF NG hf5 hr;obtain⟨x2,Yk⟩:=hs.same (w':=w') ⟨P8.os,P8.tape,P8.output,P8.size,λk hk _=>P8.block k hk⟩
 have Lz:∀g,some g∈c'.CJ->∀i,¬c'.bad g i:=λg hg i hb=>by
   have h5:=NG.low g hg;have:=h4 g i hg hb;omega
 have akF:=hft _ _ _ NG Lz h7;have vV:aUQ G cx w (.ret v) s (.returned u) w':=⟨cx,x2,Yk,u,rfl,Rp.plain (c:=c'.upto 0 0) (λg i x wE=>⟨wE.1,λGr=>wE.2.1 (.inr (.inr (h3 g i Gr))),wE.2.2⟩) hv akF⟩;rcases he' with rfl | rfl
 exact⟨Th,u,h6,vV⟩;exact⟨Th,u,h6,vV⟩
end AI
namespace AI
open Go Go.RowKit
def FO:Code->Array Oper
 | .region _ ops _=>ops
 | _=>#[]
def Uo:Code->Nat->Bool
 | .region _ ops d,n=>(match d with
   | false=>bjO ops.size n
   | true=>false)
 | _,_=>false
def bgA:Oper:={ dst:=none,op:=.move (.tmp 0),type:=0,pos:="",after:=#[],guard:=none }
def opAt(c:Code)(i:Nat):Oper:=((FO c)[i]?).getD bgA
def ahE{c:Code}{n:Nat}(h:Uo c n=true):(∃id,c=.region id (FO c) false)/\(FO c).size=n:=by
 unfold Uo at h;split at h;rename_i id ops d;split at h;exact⟨⟨id,rfl⟩,Nat.eq_of_beq_eq_true h⟩;cases h;cases h
def L1{c:Code}{n i:Nat}(h:Uo c n=true)(hi:i < n):(FO c)[i]?=some (opAt c i):=by
 have:=(ahE h).2;unfold opAt;rw[Array.getElem?_eq_getElem (by omega)];rfl
def afX(o:Oper):Option (Operand×TypeId):=match o.guard with
 | none=>(match o.op with
   | .call cl=>(match cl.callee with
     | .builtin .len=>(match cl.args.toList with
       | [x]=>(match cl.argTypes.toList with
         | [t]=>some (x,t)
         | _=>none)
       | _=>none)
     | _=>none)
   | _=>none)
 | some _=>none
def uF(o:Oper):Option (Operand×Operand×TypeId×TypeId):=match o.guard with
 | none=>(match o.op with
   | .call cl=>(match cl.callee with
     | .builtin .append=>(match cl.args.toList with
       | [x,y]=>(match cl.argTypes.toList with
         | [t,tx]=>some (x,y,t,tx)
         | _=>none)
       | _=>none)
     | _=>none)
   | _=>none)
 | some _=>none
def ahQ(o:Oper):Option (TypeId×Operand×Operand):=match o.guard with
 | none=>(match o.op with
   | .slice t x lo hi mx=>(match lo with
     | none=>(match hi with
       | some y=>(match mx with
         | none=>some (t,x,y)
         | _=>none)
       | _=>none)
     | _=>none)
   | _=>none)
 | some _=>none
def aQQ(o:Oper):Option (TypeId×Operand×Operand):=match o.guard with
 | none=>(match o.op with
   | .indexAddr t x y=>some (t,x,y)
   | _=>none)
 | some _=>none
def aQU(o:Oper):Option (TypeId×Operand):=match o.guard with
 | none=>(match o.op with
   | .load t x=>some (t,x)
   | _=>none)
 | some _=>none
def azC(o:Oper):Option (TypeId×Operand):=match o.guard with
 | none=>(match o.op with
   | .buildSlice t n ps=>(match n with
     | 1=>(match ps.toList with
       | [(0,x)]=>some (t,x)
       | _=>none)
     | _=>none)
   | _=>none)
 | some _=>none
section
variable {P:Program} {w:World} {ρ:Operand->Value} {o:Oper}
def akP{x:Operand}{t e:TypeId}{A:Option Addr}{n cap:Nat}(h:afX o=some (x,t))(hu:P.underlying t=some (.slice e))(ha:ρ x=.slice A n cap):o.guard=none/\(execOp ρ o).run P w=.ok (.value (.int .i64 n)) w:=by
 unfold afX at h;split at h;rename_i hg;refine⟨hg,?_⟩;split at h;rename_i cl ho;split at h;rename_i He;split at h;rename_i x' hx;split at h;rename_i t' ht;cases h;have e1:cl.args=#[x]:=by apply bjQ;rw[hx]
 have e2:cl.argTypes=#[t]:=by apply bjQ;rw[ht]
 simp[execOp,ho,resolve,He,e1,e2,invoke,builtin,ha,Builtin.len_,run_underlying hu,goInt];cases h;cases h;cases h;cases h;cases h
def lY{x y:Operand}{t tx:TypeId}{u:Value}{w':World}(h:uF o=some (x,y,t,tx))(hr:∀ty,(blK #[t,tx] ty #[ρ x,ρ y]).run P w=.ok u w'):o.guard=none/\(execOp ρ o).run P w=.ok (.value u) w':=by
 unfold uF at h;split at h;rename_i hg;refine⟨hg,?_⟩;split at h;rename_i cl ho;split at h;rename_i He;split at h;rename_i x' y' hx;split at h;rename_i t' tx' ht;cases h;have e1:cl.args=#[x,y]:=by apply bjQ;rw[hx]
 have e2:cl.argTypes=#[t,tx]:=by apply bjQ;rw[ht]
 simp[execOp,ho,resolve,He,e1,e2,invoke,builtin,hr];cases h;cases h;cases h;cases h;cases h
def uG{q:Operand×Operand×TypeId×TypeId}(h:uF o=some q):o.guard=none:=by
 unfold uF at h;split at h;rename_i hg;exact hg;cases h
def alT{x y:Operand}{t e:TypeId}{i:TypeInfo}{g n cap m:Nat}(h:ahQ o=some (t,x,y))(hu:P.underlying t=some (.slice e))(hi:P.info? e=some i)(ha:ρ x=.slice (some ⟨g,0,none⟩) n cap)(hy:ρ y=.int .i64 m)(hm:m<=cap):o.guard=none/\(execOp ρ o).run P w=.ok (.value (.slice (some ⟨g,0,none⟩) m cap)) w:=by
 unfold ahQ at h;split at h;rename_i hg;refine⟨hg,?_⟩;split at h;rename_i t' x' lo N1 mx ho;split at h;split at h;split at h;cases h;have b1:UC 0 none 0:=.inl ⟨rfl,rfl⟩;have b2:UC n (some (.int .i64 ((m:Nat):Int))) m:=.inr ⟨.i64,(m:Int),rfl,by omega,by simp⟩;simp only[execOp,ho,Option.map_none,biQ,ha,hy,Instr.sliceAt,biV,run_underlying hu,biS,Instr.slice,WA b1 b2 (bkI m) hm,bjX,CG hi];congr 3;split;rfl;simp[add_lit];cases h;cases h;cases h;cases h;cases h
def asE{x y:Operand}{t e:TypeId}{i:TypeInfo}{g n cap m:Nat}(h:aQQ o=some (t,x,y))(hu:P.underlying t=some (.slice e))(hi:P.info? e=some i)(ha:ρ x=.slice (some ⟨g,0,none⟩) n cap)(hy:ρ y=.int .i64 m)(hm:m < n):o.guard=none/\(execOp ρ o).run P w=.ok (.value (.pointer (some ⟨g,m*i.size,none⟩))) w:=by
 unfold aQQ at h;split at h;rename_i hg;refine⟨hg,?_⟩;split at h;rename_i t' x' y' ho;cases h;have h0:(0:Int)<=(m:Int):=by omega
 have h1:(m:Int) < (n:Int):=by omega
 simp[execOp,ho,ha,hy,Instr.indexAt,asIntOf,run_underlying hu,hm,CG hi,add_lit];cases h;cases h
def asR{x:Operand}{t:TypeId}{a:Addr}{u:Value}(h:aQU o=some (t,x))(ha:ρ x=.pointer (some a))(hr:(loadVar t a).run P w=.ok u w):o.guard=none/\(execOp ρ o).run P w=.ok (.value u) w:=by
 unfold aQU at h;split at h;rename_i hg;refine⟨hg,?_⟩;split at h;rename_i t' x' ho;cases h;simp[execOp,ho,ha,Instr.loadAt,Instr.sureAddr,hr];cases h;cases h
def anQ{x:Operand}{t e:TypeId}{i:TypeInfo}{z:Value}(h:azC o=some (t,x))(hu:P.underlying t=some (.slice e))(hi:P.info? e=some i)(hs:i.size=1)(hz:i.zero=some z)(hzs:z.cells.size=1)(hv:(ρ x).cells=#[ρ x]):o.guard=none/\(execOp ρ o).run P w=.ok (.value (.slice (some ⟨w.heap.size,0,none⟩) 1 1)) { w with heap:=w.heap.push (.cells #[ρ x] e) }:=by
 unfold azC at h;split at h;rename_i hg;refine⟨hg,?_⟩;split at h;rename_i t' n ps ho;split at h;split at h;rename_i x' jX;cases h;have e1:ps=#[(0,x)]:=by apply bjQ;rw[jX]
 have hf:∀B:Array Value,B.size=1->Instr.fill (λi=>some (i,1)) B [(0,ρ x)]=some #[ρ x]:=by
   intro B hB;obtain⟨b,rfl⟩:=Array.size_eq_one_iff.1 hB;simp[Instr.fill,hv]
 have h2:=hf ((Array.range 1).map (z.cells[· % z.cells.size]!)) (by simp);simp only[execOp,ho,e1,Instr.buildSlice,biV,run_underlying hu,biS,CG hi,hs,Sem.run_ite,zeroValue,typeInfo,run_program,hi,hz,bjX,List.map_toArray,bjM,List.map_nil,bpM,Nat.one_ne_zero,if_false,gt_iff_lt,show ¬(2 ^ 24 < 1) from by decide,newRow];rw[h2];simp;cases h;cases h;cases h;cases h
end
end AI
namespace AI
open Go Go.RowKit
def ZK(ps:List (Nat×Nat)):List AV:=ps.map λp=>.ptr p.1 p.2
def YO(ps:List (Nat×Nat)):(ZK ps).length=ps.length:=by simp[ZK]
def Ei(b:Nat)(B:Nat->Nat->Prop)(w0:World)(g cap:Nat)(ps:List (Nat×Nat)):EW:=λc w =>
 c.base=b/\Below b w0 w/\(∀g' i,c.bad g' i↔(B g' i\/g'=g))/\b<=g/\some g∉c.CJ/\(∀(r:Nat) n cap' sz,c.rows[r]?≠some (.R1 g n cap' sz)) /\
 ∃(vs ext:List Value) (T:TypeId),w.heap[g]?=some (.cells (vs++ext).toArray T (0,0))/\vs.length+ext.length=cap/\Cv c w (ZK ps) vs
def Ei.GY{b:Nat}{B:Nat->Nat->Prop}{w0:World}{g cap:Nat}{ps:List (Nat×Nat)}:W2 (Ei b B w0 g cap ps):=by
 rintro cx w Tf w' ⟨h1,h2,h3,h4,h5,h6,vs,ext,T,h7,h8,h9⟩ hx;have hg:g < w.heap.size:=(aOA.1 h7).1;refine⟨hx.base.trans h1,h2.trans (by have:=hx.below;rwa[h1] at this),λg' i=>by rw[hx.bad];exact h3 g' i,h4,λhm=>?_,λr n cap' sz hr=>?_,vs,ext,T,by rw[hx.GY g hg h5 h6];exact h7,h8,h9.mono hx⟩;rcases hx.gI g hm with h | h
 exact h5 h;omega;rcases hx.iA r g n cap' sz hr with ⟨r0,n0,QS,lO,h⟩ | h
 exact h6 _ _ _ _ h;omega
def Ei.fin{b:Nat}{B:Nat->Nat->Prop}{w0:World}{g cap:Nat}{ps:List (Nat×Nat)}(hB:∀g i,B g i->g < b):aUO b B w0 (Ei b B w0 g cap ps):=by
 rintro c w ⟨h1,h2,h3,h4,h5,_⟩;refine⟨h1,h2,λg' i hb=>(h3 g' i).2 (.inl hb),λg' i hg hb=>?_⟩;rcases(h3 g' i).1 hb with h | rfl
 exact hB g' i h;exact absurd hg h5
def Ei.pop{b:Nat}{B:Nat->Nat->Prop}{w0:World}{g cap:Nat}{ps:List (Nat×Nat)}{p:Nat×Nat}{c:Cx}{w:World}(h:Ei b B w0 g cap (ps++[p]) c w):Ei b B w0 g cap ps c w:=by
 obtain⟨h1,h2,h3,h4,h5,h6,vs,ext,T,h7,h8,h9⟩:=h;have hl:=h9.len;rw[YO,V5] at hl;refine⟨h1,h2,h3,h4,h5,h6,vs.take ps.length,vs.drop ps.length++ext,T,by rw[<- atS,blX];exact h7,by rw[V5,bjG,biR];omega,?_⟩;have:=h9.take ps.length;unfold ZK at this ⊢;rwa[bjS,bqJ (by simp)] at this
def St.move{G:AK}{c c':Cx}{w w':World}{s:AS}(h:St G c w s)(hm:Mon c w c' w')(Tl:c'.CJ=c.CJ)(vZ:c'.rows=c.rows)(aqY:c'.base=c.base)
   (arE:∀k,k < w.heap.size->(some k∈c.CJ\/(∃(r:Nat) (n cap sz:Nat),c.rows[r]?=some (.R1 k n cap sz))\/∃cs,G k=some cs)->w'.heap[k]?=w.heap[k]?) (aIS:w.heap.size<=w'.heap.size)
   (Lz:∀g i,c'.bad g i->(c.bad g i\/w.heap.size<=g)/\g < w'.heap.size):St G c' w' s:=by
 refine⟨by rw[Tl];exact h.len,h.desc,by rw[Tl];exact h.nodup,by rw[Tl,aqY];exact h.low,λid g b h1 h2=>?_,by rw[vZ];exact h.I8,λr g n cap sz hr=>?_,by rw[vZ];exact h.Jl,λg hg=>bcC (h.Np g (by rwa[Tl] at hg)) aIS,λg i hb=>(Lz g i hb).2,by rw[vZ];exact h.IU,λg cs hg=>(h.Mr g cs hg).Dk hm,by rw[aqY];exact bjH h.R2 aIS,λg cs hg=>by
   obtain⟨⟨h1,h2⟩,vs,T,f,h3,h4⟩:=h.Ol g cs hg;exact⟨⟨by rw[Tl];exact h1,by rw[vZ];exact h2⟩,vs,T,f,by rw[arE g (aOA.1 h3).1 (.inr (.inr ⟨cs,hg⟩))];exact h3,h4⟩⟩
 rw[Tl] at h1;obtain⟨o,ho,hb⟩:=h.box id g b h1 h2;exact⟨o,by rw[arE g (aOA.1 ho).1 (.inl (bcH h1))];exact ho,hb.Dk hm⟩;rw[vZ] at hr;obtain⟨a1,a2,a3,a4,vs,T,a5,a6⟩:=h.row r g n cap sz hr;have hlt:=h.NS hr;refine⟨λi hb=>?_,by rw[aqY];exact a2,by rw[Tl];exact a3,a4,vs,T,by rw[arE g hlt (.inr (.inl ⟨r,n,cap,sz,hr⟩))];exact a5,a6⟩;rcases(Lz g i hb).1 with h1 | h1
 exact a1 i h1;omega
section
variable {P:Program} {G:AK} {E:EW} {fr:List AV} {s:AS} {Q:QE}
def Rj.aZV{ι:Type}{E':ι->EW}{ops:Array Oper}{i:Nat}{l:List Nat}{o:Oper}{fr2:List AV}(v:ι->AV){s2:AS}(ho:ops[i]?=some o)(hg:o.guard=none)
   (h:∀(cx:Cx) (w:World) (a:Act),E cx w->St G cx w s->Cv cx w fr a.tmps.toList->∃x u w' Tf,(execOp a.eval o).run P w=.ok (.value u) w'/\E' x Tf w'/\St G Tf w' s2/\Cv Tf w' fr2 a.tmps.toList/\Rp Tf w' (v x) u)
   (t:∀x,Rj P G (E' x) ops l (IW fr2 o.dst (v x)) s2 Q):Rj P G E ops (i::l) fr s Q:=by
 intro cx w a K hE hs hf hd hK;refine MB ho ?_;obtain⟨x,u,w',Tf,hr,vQ,hs',jV,hu⟩:=h cx w a hE hs hf;unfold Ny;have hw:bkX o (yielded ops a.tmps)=true:=by unfold bkX;rw[hg]
 rw[hw];simp only[if_true];unfold boB;rw[hr];exact t x Tf w' (a.put o.dst u) K vQ hs' (Qm jV hu) (by cases o.dst<;>exact hd) hK
def WE.reg{c:Code}{n:Nat}(h:Uo c n=true)(k:Rj P G E (FO c) (bjR n) fr s Q):WE P G E c fr s Q:=by
 obtain⟨⟨id,hc⟩,hn⟩:=ahE h;rw[hc];refine .region ?_;rw[<- hn] at k;exact k
variable {c:Code} {n i:Nat} {l:List Nat}
def Rj.len{x:Operand}{t e:TypeId}{A:Option Addr}{k cap:Nat}(hr:Uo c n=true)(hi:i < n)(h:afX (opAt c i)=some (x,t))(hu:P.underlying t=some (.slice e))(ha:AZ G fr x=some (.raw A k cap))
   (j:Rj P G E (FO c) l (IW fr (opAt c i).dst (.sc (.int .i64 k))) s Q):Rj P G E (FO c) (i::l) fr s Q:=by
 have hgd:(opAt c i).guard=none:=by
   unfold afX at h;split at h;rename_i hg;exact hg;cases h
 refine .sem (.sc (.int .i64 k)) (L1 hr hi) hgd (λcx w a hE hs hf=>?_) j;have hv:=EB hs hf ha;generalize hq:a.eval x=v at hv;cases hv;exact⟨_,w,cx,(akP h hu hq).2,hE,hs,hf,.sc rfl⟩
variable {b g cap:Nat} {B:Nat->Nat->Prop} {w0:World} {ps:List (Nat×Nat)} {p:Nat×Nat}
def Rj.top{t t2 e d:TypeId}{x y:Operand}(hr:Uo c n=true)(hi:i+1 < n)(h1:aQQ (opAt c i)=some (t,x,y))(hd:(opAt c i).dst=some d)(h2:aQU (opAt c (i+1))=some (t2,.tmp d))(hu:P.underlying t=some (.slice e))(he:(P.info? e).map (·.size)=some 1)
   (hd2:(P.underlying t2).map O8=some false) (he2:(P.info? t2).map (·.size)=some 1) (ha:AZ G fr x=some (.raw (some ⟨g,0,none⟩) (ps++[p]).length cap)) (hy:AZ G fr y=some (.sc (.int .i64 ((ps.length:Nat):Int)))) (hd3:Nat.blt d fr.length=true)
   (j:Rj P G (Ei b B w0 g cap (ps++[p])) (FO c) l (IW (IW fr (some d) .any) (opAt c (i+1)).dst (.ptr p.1 p.2)) s Q):Rj P G (Ei b B w0 g cap (ps++[p])) (FO c) (i::(i+1)::l) fr s Q:=by
 have hd3:d < fr.length:=Nat.blt_eq.mp hd3;intro cx w a K hE hs hf hdf hK;have hva:=EB hs hf ha;have hvy:=EB hs hf hy;generalize hqa:a.eval x=va at hva;generalize hqy:a.eval y=vy at hvy;cases hva;cases hvy;obtain⟨ie,hie,hsz⟩:=bkK.1 he;have r1:=asE (P:=P) (w:=w) h1 hu hie hqa hqy (by simp);rw[hsz,bpM] at r1;have hE2:=hE;obtain⟨_,_,_,_,_,_,vs,ext,T,h7,h8,h9⟩:=hE2;refine MB (L1 hr (by omega)) ?_;unfold Ny;rw[show bkX (opAt c i) (yielded (FO c) a.tmps)=true by unfold bkX;rw[r1.1]];simp only[if_true];unfold boB;rw[r1.2];show wpOps P (FO c) K ((i+1)::l) (a.put (opAt c i).dst (.pointer (some ⟨g,ps.length,none⟩))) w;rw[hd];have hl:=hf.len;rw[bjF] at hl
 have Je:(a.put (some d) (.pointer (some ⟨g,ps.length,none⟩))).eval (.tmp d)=.pointer (some ⟨g,ps.length,none⟩):=by
   simp[Act.put,Act.eval,Array.getD_eq_getD_getElem?,Array.getElem?_setIfInBounds,hl,hd3]
 have hap:apart P t2 (ZK (ps++[p])) ps.length=some (.ptr p.1 p.2):=by
   unfold apart;obtain⟨dd,hu2,hdd⟩:=bkK.1 hd2;rw[hu2];cases TX:P.info? t2 with
   | none=>rw[TX] at he2;cases he2
   | some j =>
     simp only;rw[hdd,if_neg (by simp)];simp[ZK]
 obtain⟨u,hru,hrp⟩:=VU (P:=P) (w:=w) (g:=g) (o:=0) hap h9 (λi v hv=>by rw[bcD];exact cell_of_heap h7 (UE hv));rw[bcD] at hru;have r2:=asR (P:=P) (w:=w) h2 Je hru;refine MB (L1 hr hi) ?_;unfold Ny;rw[show ∀q,bkX (opAt c (i+1)) q=true by intro q;unfold bkX;rw[r2.1]];simp only[if_true];unfold boB;rw[r2.2];exact j cx w _ K hE hs (Qm (Qm (dst:=some d) hf (.any (v:=.pointer (some ⟨g,ps.length,none⟩)) rfl)) hrp) (by cases (opAt c (i+1)).dst<;>exact hdf) hK
def Rj.bgH{t e:TypeId}{x y:Operand}(hr:Uo c n=true)(hi:i < n)(h:ahQ (opAt c i)=some (t,x,y))(hu:P.underlying t=some (.slice e))(he:(P.info? e).map (·.size)=some 1)(ha:AZ G fr x=some (.raw (some ⟨g,0,none⟩) (ps++[p]).length cap))(hy:AZ G fr y=some (.sc (.int .i64 ((ps.length:Nat):Int))))
   (j:Rj P G (Ei b B w0 g cap ps) (FO c) l (IW fr (opAt c i).dst (.raw (some ⟨g,0,none⟩) ps.length cap)) s Q):Rj P G (Ei b B w0 g cap (ps++[p])) (FO c) (i::l) fr s Q:=by
 have hgd:(opAt c i).guard=none:=by
   unfold ahQ at h;split at h;rename_i hg;exact hg;cases h
 refine .sem (.raw (some ⟨g,0,none⟩) ps.length cap) (L1 hr hi) hgd (λcx w a hE hs hf=>?_) j;have hva:=EB hs hf ha;have hvy:=EB hs hf hy;generalize hqa:a.eval x=va at hva;generalize hqy:a.eval y=vy at hvy;cases hva;cases hvy;obtain⟨ie,hie,_⟩:=bkK.1 he;have hE2:=hE;obtain⟨_,_,_,_,_,_,vs,ext,T,h7,h8,h9⟩:=hE2;have hl:=h9.len;rw[YO,V5] at hl;exact⟨_,w,cx,(alT h hu hie hqa hqy (by omega)).2,hE.pop,hs,hf,.raw⟩
def Rj.push{t tx e e2 id off:TypeId}{x y:Operand}(hr:Uo c n=true)(hi:i < n)(h:uF (opAt c i)=some (x,y,t,tx))(hu:P.underlying t=some (.slice e))(hux:P.underlying tx=some (.slice e2))
   (he:(P.info? e).map (λi=>(i.size,decide (i.bytes<=10000),i.zero.map (·.cells.size)))=some (1,true,some 1)) (ha:AZ G fr x=some (.raw (some ⟨g,0,none⟩) ps.length cap)) (hy:AZ G fr y=some (.sl .full 1 [.ptr id off])) (hlen:ps.length+1<=100000000)
   (j:∀g' cap',Rj P G (Ei b B w0 g' cap' (ps++[(id,off)])) (FO c) l (IW fr (opAt c i).dst (.raw (some ⟨g',0,none⟩) (ps++[(id,off)]).length cap')) s Q):Rj P G (Ei b B w0 g cap ps) (FO c) (i::l) fr s Q:=by
 cases hie:P.info? e with
 | none=>rw[hie] at he;cases he
 | some ie =>
 rw[hie] at he;simp only[biQ,aOE,biY,decide_eq_true_eq] at he;obtain⟨hsz,hby,hzz⟩:=he;obtain⟨z,hz,hzs⟩:=bkK.1 hzz;refine .aZV (ι:=Nat×Nat) (E':=λq=>Ei b B w0 q.1 q.2 (ps++[(id,off)])) (λq=>.raw (some ⟨q.1,0,none⟩) (ps++[(id,off)]).length q.2) (L1 hr hi) (uG h) (λcx w a hE hs hf=>?_) (λq=>j q.1 q.2);have hva:=EB hs hf ha;have hvy:=EB hs hf hy;generalize hqa:a.eval x=va at hva;generalize hqy:a.eval y=vy at hvy;cases hva;obtain⟨h1,h2,h3,h4,h5,h6,vs,ext,T,h7,h8,h9⟩:=hE;have hg:g < w.heap.size:=(aOA.1 h7).1;have hl:=h9.len;rw[YO] at hl;obtain⟨news,hnr,hnl,hsi⟩:=pB (P:=P) (s:=s) (size:=ie.size) (tx:=tx) (n:=1) (cs:=[.ptr id off]) hs (by unfold ZZ;rw[hux,hsz];rfl) hvy;rw[hsz,bpM] at hnl;have aXL:∀g' i v,MD cx w g' i v->g'≠g:=λg' i v hv e=>hv.2.1 (.inr (.inr ((h3 g' i).2 (.inr e))))
 have afK:∀{Tf:Cx} {w':World},Mon cx w Tf w'->Cv Tf w' (ZK (ps++[(id,off)])) (vs++news):=λhm=>by
   unfold ZK at h9 ⊢;rw[bjS];exact(h9.Dk hm).append (hnr.Dk hm)
 by_cases Xv:ps.length+1<=cap
 · have akF:ps.length+news.length<=(vs++ext).toArray.size:=by rw[hnl,bkR,V5];omega
   have Fl:=run_storeCells_at P g ps.length T news 0 (vs++ext).toArray w h7 (by simpa using akF) (bT hnr rfl)
   simp only[bkH] at Fl;have Ms:=setRow_heap w g (vs++ext).toArray ((vs++ext).toArray.toList.take ps.length++news++(vs++ext).toArray.toList.drop (ps.length+news.length)).toArray T (0,0) h7;have hc:=Hy w g ((vs++ext).toArray.toList.take ps.length++news++(vs++ext).toArray.toList.drop (ps.length+news.length)).toArray
   have aOH:((vs++ext).toArray.toList.take ps.length++news++(vs++ext).toArray.toList.drop (ps.length+news.length))=(vs++news)++ext.drop 1:=by
     simp only[List.toList_toArray];rw[bqJ hl,hnl,bqB];rw[bjL (by omega),bcJ,show ps.length+1 - vs.length=1 by omega]
   rw[aOH] at Ms Fl hc;have hm:Mon cx w cx (w.setRow g ((vs++news)++ext.drop 1).toArray):=⟨λ_ _ h=>h,aOC _,λr y _ h=>⟨y,h,La.refl y⟩,λg' i v hv=>⟨bcC hv.1 hc.size,hv.2.1,by rw[hc.cell hv.1 (aXL g' i v hv)];exact hv.2.2⟩⟩
   refine⟨(g,cap),_,_,cx,(lY h (λty=>by
     rw[hqa,hqy];exact SI (ty:=ty) hu hie hsi Xv (w':=w.setRow g ((vs++news)++ext.drop 1).toArray) (λa ha=>by cases ha;rw[add_lit,bcD,hsz,bpM];exact Fl) (λh=>by cases h))).2,⟨h1,h2.trans (hc.below (by rw[<- h1];exact hs.R2) (λk hk=>by rw[hk];exact h4)),h3,h4,h5,h6,vs++news,ext.drop 1,T,Ms,?_,afK hm⟩,hs.move hm rfl rfl rfl (λk hk hor=>hc.block k hk (λe=>?_)) hc.size (λg' i hb=>⟨.inl hb,bcC (hs.ND g' i hb) hc.size⟩),hf.Dk hm,?_⟩
   rw[V5,biR];omega
   · subst e
     rcases hor with h | ⟨r,n',cap',sz,h⟩ | ⟨cs,h⟩
     exact h5 h;exact h6 _ _ _ _ h
     · cases cs with
       | nil =>
         obtain⟨_,vs',T',f',e3,e4⟩:=hs.Ol _ _ h;rw[h7] at e3;cases e3;simp only[bkR,V5,aOD] at e4;omega
       | cons c0 cs =>
         obtain⟨v,hv,_⟩:=(hs.Mr _ _ h).get (i:=0) rfl;exact aXL _ _ _ hv rfl
   rw[V5];exact .raw
 have hfc:(bkE ie.size ps.length (.slice (some ⟨g,0,none⟩) ps.length cap)).run P { w with drawn:=w.drawn+1 }=.ok vs.toArray { w with drawn:=w.drawn+1 }:=by
   rw[hsz];refine run_firstCells_some { w with drawn:=w.drawn+1 } 1 ps.length ⟨g,0,none⟩ ps.length cap vs (by omega) (λj v hj=>?_)
   rw[add_lit,bcD];exact cell_of_heap h7 (UE hj)
 have aOG:(ps.length+1)*ie.bytes<=140737488355328:=bjH (bpF hlen hby) (by decide)
 have hex:∃cap',ps.length+1<=cap'/\∀ty,(blK #[t,tx] ty #[.slice (some ⟨g,0,none⟩) ps.length cap,vy]).run P w=.ok (.slice (some ⟨w.heap.size,0,none⟩) (ps.length+1) cap') { w with drawn:=w.drawn+1,heap:=w.heap.push (.cells ((vs++news).toArray++bjN z.cells (cap' - (ps.length+1))) e) }:=by
   obtain⟨cap',hc',Tm⟩:=SH (ty:=0) hu hie hz hsi hfc (by omega) (by omega) aOG;exact⟨cap',hc',λty=>Tm⟩
 obtain⟨cap',eV,Tm⟩:=hex;have hzc:(bjN z.cells (cap' - (ps.length+1))).size=cap' - (ps.length+1):=by rw[size_zeroCells,hzs,bpM]
 let w':World:={ w with drawn:=w.drawn+1,heap:=w.heap.push (.cells ((vs++news).toArray++bjN z.cells (cap' - (ps.length+1))) e) }
 have hk:Tv w w' (λ_=>False):=⟨rfl,rfl,rfl,by simp[w'],λk hk _=>by simp[w',Array.getElem?_push];intro h;omega⟩
 have Ms:w'.heap[w.heap.size]?=some (.cells ((vs++news)++(bjN z.cells (cap' - (ps.length+1))).toList).toArray e (0,0)):=by
   have:w'.heap[w.heap.size]?=some (.cells ((vs++news).toArray++bjN z.cells (cap' - (ps.length+1))) e (0,0)):=by simp[w']
   rw[this];congr 2;apply bjQ;simp
 let Tf:Cx:={ cx with bad:=λg' i=>B g' i\/g'=w.heap.size }
 have hBs:∀g' i,B g' i->g' < w.heap.size:=λg' i hb=>hs.ND g' i ((h3 g' i).2 (.inl hb));have hm:Mon cx w Tf w':=⟨λ_ _ h=>h,aOC _,λr y _ h=>⟨y,h,La.refl y⟩,λg' i v hv=>⟨bcC hv.1 hk.size,λGr=>?_,by rw[hk.cell hv.1 not_false];exact hv.2.2⟩⟩;have beJ:w'.heap.size=w.heap.size+1:=by simp[w']
 refine⟨(w.heap.size,cap'),_,w',Tf,(lY h (λty=>by rw[hqa,hqy];exact Tm ty)).2,⟨h1,h2.trans (hk.below (by rw[<- h1];exact hs.R2) (λ_ h=>h.elim)),λ_ _=>Iff.rfl,by rw[<- h1];exact hs.R2,λhm'=>?_,λr n' c' sz bK=>?_,vs++news,_,e,Ms,?_,afK hm⟩,hs.move hm rfl rfl rfl (λk jW _=>hk.block k jW not_false) hk.size (λg' i hb=>?_),hf.Dk hm,?_⟩;have:=hs.Np _ hm';omega;have:=hs.NS bK;omega;have hz3:(bjN z.cells (cap' - (ps.length+1))).toList.length=cap' - (ps.length+1):=by rw[bjF,hzc]
 show(vs++news).length+_=cap';rw[hz3,V5];omega;rcases hb with hb | rfl
 exact⟨.inl ((h3 g' i).2 (.inl hb)),by have:=hBs g' i hb;omega⟩;exact⟨.inr (aOC _),by omega⟩;rw[V5];exact .raw;rcases Gr with Gr | Gr | Gr
 exact hv.2.1 (.inl Gr);exact hv.2.1 (.inr (.inl Gr));rcases Gr with Gr | Gr
 exact hv.2.1 (.inr (.inr ((h3 g' i).2 (.inl Gr))));have:=hv.1;omega
def Rj.begin{t e id off:TypeId}{x:Operand}(hr:Uo c n=true)(hi:i < n)(h:azC (opAt c i)=some (t,x))(hu:P.underlying t=some (.slice e))(he:(P.info? e).map (λi=>(i.size,i.zero.map (·.cells.size)))=some (1,some 1))(ha:AZ G fr x=some (.ptr id off))
   (j:∀g',Rj P G (Ei b B w0 g' 1 [(id,off)]) (FO c) l (IW fr (opAt c i).dst (.raw (some ⟨g',0,none⟩) 1 1)) s Q):Rj P G (E0 b B w0) (FO c) (i::l) fr s Q:=by
 cases hie:P.info? e with
 | none=>rw[hie] at he;cases he
 | some ie =>
 rw[hie] at he;simp only[biQ,aOE,biY] at he;obtain⟨hsz,hzz⟩:=he;obtain⟨z,hz,hzs⟩:=bkK.1 hzz
 have hgd:(opAt c i).guard=none:=by
   unfold azC at h;split at h;rename_i hg;exact hg;cases h
 refine .aZV (ι:=Nat) (E':=λq=>Ei b B w0 q 1 [(id,off)]) (λq=>.raw (some ⟨q,0,none⟩) 1 1) (L1 hr hi) hgd (λcx w a hE hs hf=>?_) j;have hva:=EB hs hf ha;generalize hqa:a.eval x=va at hva;obtain⟨h1,h2,h3⟩:=hE;have Tm:=(anQ (P:=P) (w:=w) (ρ:=a.eval) h hu hie hsz hz hzs (by rw[hqa];cases hva;rfl)).2;rw[hqa] at Tm;let w':World:={ w with heap:=w.heap.push (.cells #[va] e) }
 have hk:Tv w w' (λ_=>False):=O1 w _;let Tf:Cx:={ cx with bad:=λg' i=>B g' i\/g'=w.heap.size }
 have hBs:∀g' i,B g' i->g' < w.heap.size:=λg' i hb=>hs.ND g' i (by rw[h2];exact hb);have beJ:w'.heap.size=w.heap.size+1:=by simp[w']
 have hm:Mon cx w Tf w':=⟨λ_ _ h=>h,aOC _,λr y _ h=>⟨y,h,La.refl y⟩,λg' i v hv=>⟨bcC hv.1 hk.size,λGr=>by
   rcases Gr with Gr | Gr | Gr
   exact hv.2.1 (.inl Gr);exact hv.2.1 (.inr (.inl Gr));rcases Gr with Gr | Gr
   exact hv.2.1 (.inr (.inr (by rw[h2];exact Gr)));have:=hv.1;omega,by rw[hk.cell hv.1 not_false];exact hv.2.2⟩⟩
 refine⟨w.heap.size,_,w',Tf,Tm,⟨h1,h3.trans (hk.below (by rw[<- h1];exact hs.R2) (λ_ h=>h.elim)),λ_ _=>Iff.rfl,by rw[<- h1];exact hs.R2,λhm'=>?_,λr n' c' sz bK=>?_,[va],[],e,by simp[w'],rfl,.cons (hva.Dk hm) .nil⟩,hs.move hm rfl rfl rfl (λk jW _=>hk.block k jW not_false) hk.size (λg' i hb=>?_),hf.Dk hm,.raw⟩;have:=hs.Np _ hm';omega;have:=hs.NS bK;omega;rcases hb with hb | rfl
 exact⟨.inl (by rw[h2];exact hb),by have:=hBs g' i hb;omega⟩;exact⟨.inr (aOC _),by omega⟩
def WE.run(hm:P.follows .mixedOrders=true)(hk:W2 E){c:Code}(l:List (PC P G)){e:AX}{fr2:List AV}{s2:AS}(h:Y3 fr2 (U4 P G 300 c [] (pHs l) fr s)=some (e,T8 l,fr2,s2))(hp:∀v,e≠.pan v)(hq:Q e fr2 s2 E):WE P G E c fr s Q:=by
 unfold Y3 at h;split at h;rename_i e' cd fr' s' hr;simp only[aOE,biY] at h;obtain⟨rfl,rfl,hfr,rfl⟩:=h;have hw:W P G (XS P G) H0 c fr s (λe2 f2 s2=>e2=e'/\f2=fr'/\s2=s'):=yE 300 l _ _ _ _ hr (Pk l) ⟨rfl,rfl,rfl⟩;obtain⟨e1,f1,s1,hj,rfl,rfl,rfl⟩:=hw;have hS:=sound (TU hm) hj;intro cx w a K hE hs hf hd hK;refine hS cx w a K hs hf hd ?_;rintro e'' a' w' ⟨c',hx,hs',Th,h4⟩;refine hK _ _ _ E hq c' w' a' e'' (hk _ _ _ _ hE hx) hs' Th ?_;rw[<- hfr];cases e1 with
 | normal=>exact⟨h4.1,WV h4.2⟩
 | exit id=>exact⟨h4.1,WV h4.2⟩
 | ret=>exact⟨h4.1,WV h4.2⟩
 | pan v=>exact absurd rfl (hp v)
 cases h
end
end AI
namespace AI
open Go Go.RowKit
def VF{M:List Ao}:∀{n id:Nat} {acc:List (Nat×Ao)},id < n->look id (Ih M n acc)=look id acc:=by
 induction M with
 | nil=>intro n id acc _;rfl
 | cons x M ih =>
   intro n id acc h;simp only[Ih];rw[ih (by omega)];simp only[look]
   have:bjO n id=false:=by
     cases hq:bjO n id with
     | false=>rfl
     | true=>have:=beq_true hq;omega
   rw[this]
def lB{M:List Ao}:∀{n i:Nat} {acc:List (Nat×Ao)} {b:Ao},M[i]?=some b->look (n+i) (Ih M n acc)=some b:=by
 induction M with
 | nil=>intro n i acc b h;simp at h
 | cons x M ih =>
   intro n i acc b h;cases i with
   | zero =>
     simp at h;subst h;simp only[Ih,bkH];rw[VF (bkM n)];simp only[look,bmB]
   | succ i =>
     simp only[Ih];rw[show n+(i+1)=n+1+i by omega];exact ih (by simpa using h)
def Yb{M:List Ao}:∀{n id:Nat} {acc:List (Nat×Ao)} {b:Ao},id < n->Ta id b (Ih M n acc)=Ih M n (Ta id b acc):=by
 induction M with
 | nil=>intro n id acc b _;rfl
 | cons x M ih =>
   intro n id acc b h;simp only[Ih];rw[ih (by omega)];simp only[Ta]
   have:bjO n id=false:=by
     cases hq:bjO n id with
     | false=>rfl
     | true=>have:=beq_true hq;omega
   rw[this]
def sS{M:List Ao}:∀{n i:Nat} {acc:List (Nat×Ao)} {b:Ao},i < M.length->Ta (n+i) b (Ih M n acc)=Ih (M.set i b) n acc:=by
 induction M with
 | nil=>intro n i acc b h;simp at h
 | cons x M ih =>
   intro n i acc b h;cases i with
   | zero =>
     simp only[Ih,bkH,List.set_cons_zero];rw[Yb (bkM n)];simp only[Ta,bmB]
   | succ i =>
     simp only[Ih,List.set_cons_succ];rw[show n+(i+1)=n+1+i by omega];exact ih (by simpa using h)
def acH{x:Ao}:∀{M:List Ao} {n:Nat} {acc:List (Nat×Ao)},Ih (M++[x]) n acc=(n+M.length,x)::Ih M n acc:=by
 intro M
 induction M with
 | nil=>intro n acc;rfl
 | cons y M ih =>
   intro n acc;simp only[bcE,Ih,Yy];rw[ih,show n+1+M.length=n+(M.length+1) by omega]
def axU{k:Nat}{b b0:Ao}{T:List (Nat×Ao)}:Ta k b ((k,b0)::T)=(k,b)::T:=by simp only[Ta,bmB]
def bP{k:Nat}{b:Ao}{T:List (Nat×Ao)}:look k ((k,b)::T)=some b:=by simp only[look,bmB]
def rH{k id:Nat}{b:Ao}{T:List (Nat×Ao)}(h:k≠id):look id ((k,b)::T)=look id T:=by
 simp only[look];cases hq:bjO k id with
 | false=>rfl
 | true=>exact absurd (beq_true hq) h
def aTQ{k id:Nat}{b b2:Ao}{T:List (Nat×Ao)}(h:k≠id):Ta id b2 ((k,b)::T)=(k,b)::Ta id b2 T:=by
 simp only[Ta];cases hq:bjO k id with
 | false=>rfl
 | true=>exact absurd (beq_true hq) h
def fR{id:Nat}{b b0:Ao}:∀{T:List (Nat×Ao)},look id T=some b0->look id (Ta id b T)=some b:=by
 intro T
 induction T with
 | nil=>intro h;cases h
 | cons e T ih =>
   intro h;simp only[look] at h;simp only[Ta];split at h;simp only[look,bmB];rename_i hb;simp only[look,hb];exact ih h
section
variable {P:Program} {G:AK} {α:Type} {f:α->List AV} {C:List α->List AV} {k:Nat}
def mB{e:TypeId}(hd:(P.underlying e).map O8=some false)(hs:(P.info? e).map (·.size)=some 1){cs:List AV}{off:Nat}{a:AV}(h:cs[off]?=some a):Cd.ok P G (.ldB (.cells cs) e off a):=by
 intro s id hg;simp only[JL,hg];unfold apart;obtain⟨d,hu,hd⟩:=bkK.1 hd;rw[hu];cases hi:P.info? e with
 | none=>rw[hi] at hs;cases hs
 | some j =>
   simp only;rw[hd,if_neg (by simp)];exact h
def adL{β:Type}{cs:List β}{off:Nat}(v:β)(h:off < cs.length):IB cs off [v]=cs.set off v:=by
 unfold IB;rw[bnV,if_pos h];simp
def anP{e:TypeId}(hs:(P.info? e).map (·.size)=some 1){cs cs2:List AV}{off:Nat}{v:AV}(h:off < cs.length)(hc:cs2=cs.set off v)(hv:cellsOf v=[v]:=by rfl)(h1:one v=true:=by rfl):Cd.ok P G (.stB (.cells cs) e off v (.cells cs2)):=by
 intro s id hg;cases hi:P.info? e with
 | none=>rw[hi] at hs;cases hs
 | some j =>
   rw[hi] at hs;have hk:j.size=1:=by simpa using hs
   unfold Lb;rw[hi];simp only[hg];rw[hv,hk,if_pos ⟨rfl,by simp[h1],by omega⟩,hc,adL v h]
def sC{f:α->List AV}(hf:∀x,(f x).length=k){l:List α}{i j:Nat}{x:α}(hx:l[i]?=some x)(hj:j < k):(rows f l)[i*k+j]?=(f x)[j]?:=by
 rw[<- List.getElem?_drop,UR hf hx,bcF (by rw[hf];exact hj)]
def yC{f:α->List AV}(hf:∀x,(f x).length=k){l:List α}{i j:Nat}{x y:α}{v:AV}(hx:l[i]?=some x)(hj:j < k)(hy:f y=(f x).set j v):rows f (l.set i y)=(rows f l).set (i*k+j) v:=by
 have hlt:=(abH.1 hx).1;have Z2:=(abH.1 hx).2
 have e1:l=l.take i++x::l.drop (i+1):=by
   rw[<- Z2,<- List.drop_eq_getElem_cons hlt,blX]
 rw[nW y hlt]
 conv=>rhs;rw[e1]
 have hlen:(rows f (l.take i)).length=i*k:=by rw[IA hf,bjG,Nat.min_eq_left (by omega)]
 rw[QH,QH,Fv,Fv,hy,List.set_append_right _ _ (by omega),hlen,Nat.add_sub_cancel_left,List.set_append_left _ _ (by rw[hf];exact hj)]
def yA{f:α->List AV}(hf:∀x,(f x).length=k){e:TypeId}(hd:(P.underlying e).map O8=some true)(hs:(P.info? e).map (·.size)=some k){l:List α}{i:Nat}{x:α}(hx:l[i]?=some x):Cd.ok P G (.ldB (.cells (rows f l)) e (0+i*k) (.agg (f x))):=by
 intro s id hg;simp only[JL,hg];unfold apart;obtain⟨d,hu,hd⟩:=bkK.1 hd;rw[hu];cases hi:P.info? e with
 | none=>rw[hi] at hs;cases hs
 | some j =>
   rw[hi] at hs;have hk:j.size=k:=by simpa using hs
   have hlt:=(abH.1 hx).1;simp only;rw[hd,if_pos rfl,bcD,hk,IA hf,if_pos (by have:=blO k hlt;rw[bnH] at this;exact this),UR hf hx,bqJ (hf x)]
def stA{e:TypeId}(hs:(P.info? e).map (·.size)=some k){cs0 cs:List AV}(h0:cs0.length=k)(h:cs.length=k)(h1:cs.all one=true):Cd.ok P G (.stB (.cells cs0) e 0 (.agg cs) (.cells cs)):=by
 intro s id hg;cases hi:P.info? e with
 | none=>rw[hi] at hs;cases hs
 | some j =>
   rw[hi] at hs;have hk:j.size=k:=by simpa using hs
   unfold Lb;rw[hi];simp only[hg];have hc:cellsOf (.agg cs)=cs:=rfl;rw[hc,if_pos ⟨by rw[h,hk],h1,by rw[hk,h0];omega⟩];congr 3;unfold IB;rw[List.take_zero,bcJ,h,bjL (by omega),bcB]
def bbF{s:AS}{fn:Func}{fr:List AV}{t ty:TypeId}{a v:AV}(hr:fn.results.toList=[.cell t ty])(hf:fr[t]?=some a)(ha:JL P s ty a=some v):F8 P s fn fr=some v:=by
 unfold F8;rw[hr];simp only[OX,TE,bkG,hf,Option.getD_some,ha]
def acR{b:Ao}{t:TypeId}{off:Nat}{v:AV}{x:Option Ao}(h:Cd.ok P G (.ldB b t off v))(e:x=some b):PC P G:=⟨.lb b v,[.ldB b t off v,.eqx [x] [some b] [] []],⟨h,⟨by rw[e],rfl⟩,trivial⟩⟩
def aCY{b b2:Ao}{t:TypeId}{off:Nat}{v:AV}{x:Option Ao}(h:Cd.ok P G (.stB b t off v b2))(e:x=some b):PC P G:=⟨.sb b b2,[.stB b t off v b2,.eqx [x] [some b] [] []],⟨h,⟨by rw[e],rfl⟩,trivial⟩⟩
end
section
variable {P:Program} {G:AK} {E:EW} {fr:List AV} {s:AS} {Q:QE}
def WE.wk{c:Code}{fr2:List AV}(h:wkF fr fr2=fr2)(k:WE P G E c fr2 s Q):WE P G E c fr s Q:=λcx w a K hE hs hf hd hK=>k cx w a K hE hs (by rw[<- h];exact WV hf) hd hK
def WE.acW{c:Code}{id:Nat}{b b2:Ao}(hb:look id s.h=some b)(hk:∀(cx:Cx) (w:World) (o:Obj),EA cx w b o->EA cx w b2 o)(k:WE P G E c fr ⟨Ta id b2 s.h,s.nx,s.F,s.nr⟩ Q):WE P G E c fr s Q:=λcx w a K hE hs hf hd hK=>k cx w a K hE (hs.acW hb (λo ho=>hk cx w o ho)) hf hd hK
def WE.Vl{c x y:Code}(hc:c=.seq x y)(h:WE P G E x fr s (λe fr' s' E'=>e=.normal/\WE P G E' y fr' s' Q)):WE P G E c fr s Q:=by
 subst hc;exact .seq (λcx w a K hE hs hf hd hK=>h cx w a K hE hs hf hd (λe fr s E hq=>hK e fr s E (.inl hq)))
def WE.seqB{c x y:Code}(hc:c=.seq x y)(h:WE P G E x fr s (λe fr' s' E'=>(e=.normal/\WE P G E' y fr' s' Q)\/(e≠.normal/\Q e fr' s' E'))):WE P G E c fr s Q:=by
 subst hc;exact .seq h
def WE.mG{c x y:Code}{q:Operand}(t:Bool)(hc:c=.cond q x y)(hq:AZ G fr q=some (.sc (.bool t)))(h:WE P G E (if t then x else y) fr s Q):WE P G E c fr s Q:=by
 subst hc;exact .cond hq h
def WE.adD(hm:P.follows .mixedOrders=true)(hk:W2 E){c:Code}(l:List (PC P G)){e:AX}{fr2:List AV}(h:Y3 fr2 (U4 P G 300 c [] (pHs l) fr s)=some (e,T8 l,fr2,s))(hp:∀v,e≠.pan v)(hq:Q e fr2 s E):WE P G E c fr s Q:=.run hm hk l h hp hq
def Rj.q(hm:P.follows .mixedOrders=true)(hk:W2 E){c:Code}{n i:Nat}{l:List Nat}(hr:Uo c n=true)(hi:i < n)(v:AV)(hw:Cw (FO c) fr (opAt c i)=true)(h:RZ P G fr s (opAt c i)=some (.val v s))(t:Rj P G E (FO c) l (IW fr (opAt c i).dst v) s Q):Rj P G E (FO c) (i::l) fr s Q :=
 .op hm hk v (L1 hr hi) (.Pj hw h) t
def Rj.hb(hm:P.follows .mixedOrders=true)(hk:W2 E){c:Code}{n i:Nat}{l:List Nat}(hr:Uo c n=true)(hi:i < n){B:Bool}(b:Bool)(hB:B=b)(h:mN P G (FO c) fr s (opAt c i) [.b b]=some (.sc (.bool b),s,[],[.eqb B b]))(t:Rj P G E (FO c) l (IW fr (opAt c i).dst (.sc (.bool b))) s Q):Rj P G E (FO c) (i::l) fr s Q :=
 .op hm hk (.sc (.bool b)) (L1 hr hi) (QU h ⟨hB,trivial⟩) t
def Rj.hi(hm:P.follows .mixedOrders=true)(hk:W2 E){c:Code}{n i:Nat}{l:List Nat}(hr:Uo c n=true)(hi:i < n){X:Int}(z:Int)(hX:X=z)(h:mN P G (FO c) fr s (opAt c i) [.i z]=some (.sc (.int .i64 z),s,[],[.eqi X z]))(t:Rj P G E (FO c) l (IW fr (opAt c i).dst (.sc (.int .i64 z))) s Q):Rj P G E (FO c) (i::l) fr s Q :=
 .op hm hk (.sc (.int .i64 z)) (L1 hr hi) (QU h ⟨hX,trivial⟩) t
def WE.mono{c:Code}{Q2:QE}(h:WE P G E c fr s Q2)(hq:∀e fr' s' E',Q2 e fr' s' E'->Q e fr' s' E'):WE P G E c fr s Q:=λcx w a K hE hs hf hd hK=>h cx w a K hE hs hf hd (λe fr s E h2=>hK e fr s E (hq _ _ _ _ h2))
end
end AI
namespace AI
open Go Go.RowKit
section
variable {P:Program} {G:AK}
def Mi.bbV{α:Type}{f:α->List AV}{C:List α->List AV}{k:Nat}(h:Mi f C k){t tx e e2 by':Nat}(hu:P.underlying t=some (.slice e))(hux:P.underlying tx=some (.slice e2))(hi:(P.info? e).map (λi=>(i.size,i.bytes,i.zero.map (·.cells.size)))=some (k,by',some k))(hk:0 < k)
   (own:Own) (l m:List α) {o:Own} {n:Nat} {ns:List AV} (hn:Wn ns (C m)) (vY:n=m.length) (ho:ns.all one=true) (hm:m.length≠0) (hlen:(l.length+m.length)*by'<=140737488355328) (h63:l.length+m.length<=9223372036854775807):Cd.ok P G (.jU t tx own l.length (C l) (.sl o n ns) k (l++m).length (C (l++m))):=by
 subst vY;cases hq:P.info? e with
 | none=>rw[hq] at hi;cases hi
 | some i =>
   rw[hq] at hi;simp only[biQ,aOE,biY] at hi;obtain⟨h1,h2,h3⟩:=hi;cases hz:i.zero with
   | none=>rw[hz] at h3;cases h3
   | some z =>
     rw[hz] at h3;simp only[biQ,aOE] at h3;intro s QX;have hnl:ns.length=m.length*k:=by rw[hn.len,h.eq,IA h.len]
     have hll:(C l).length=l.length*k:=by rw[h.eq,IA h.len]
     refine⟨C l++ns,?_,λc w u o' hr=>?_⟩
     have hs:ZZ P s i.size tx (.sl o m.length ns)=some (m.length,ns):=by
       unfold ZZ;rw[hux,h1];simp only[hnl,if_true]
     unfold LF;simp only[hu,hq,hz];rw[if_pos ⟨by rw[h3,h1],by omega⟩,hs];simp only
     have hbb:(l.length+m.length)*i.bytes<=140737488355328:=by
       rw[h2];exact hlen
     rw[if_pos ⟨by rw[hll,h1],ho,hbb,by omega⟩,if_neg hm,h1,if_pos QX,V5];rw[h.WY];exact Rp.wnC (Wn.WY (Wn.refl (C l)) hn) hr
end
end AI
namespace AI
open Go Go.RowKit
end AI
namespace AI
open Go Go.RowKit
section
variable {P:Program} {G:AK} {α δ:Type} {enc:α->AV} {Xn:δ->AV}
abbrev crS(enc:α->AV)(Xn:δ->AV):α⊕δ->CR
 | .inl a=>.ret (enc a)
 | .inr d=>.pan (Xn d)
def amU(P:Program)(G:AK)(fn:Func)(m:Nat)(s0:AS)(enc:α->AV)(Xn:δ->AV)(Q:AX->List AV->AS->Prop)(y:α⊕δ)(s2:AS):Prop:=match y with
 | .inl a=>W4 P G fn m s0 Q (enc a) s2
 | .inr d=>Ym G m s0 Q (Xn d) s2
def amU.body{fn:Func}{m:Nat}{s0 s2:AS}{y:α⊕δ}:amU P G fn m s0 enc Xn (S0 P fn m (QM G s0 (crS enc Xn y) s2)) y s2:=by
 cases y with
 | inl a=>exact W4.body
 | inr d=>exact Ym.body
def amU.rnd{fn:Func}{m:Nat}{L:Code}{s0 s1 s2:AS}{Q:AX->List AV->AS->Prop}{y:α⊕δ}(h:amU P G fn m s0 enc Xn Q y s2):amU P G fn m s0 enc Xn (I9 P G L s1 Q) y s2:=by
 cases y with
 | inl a=>exact W4.rnd h
 | inr d=>exact Ym.rnd h
def aDM{k j:Nat}{ρ σ:Nat->Nat}(h1:∀a,plain (enc a)=true)(h2:∀d,plain (Xn d)=true)(y:α⊕δ):RnR k j ρ σ (crS enc Xn y) (crS enc Xn y):=by
 cases y with
 | inl a=>exact .pl (h1 a)
 | inr d=>exact .pl (h2 d)
def Mi.ixa{α:Type}{f:α->List AV}{C:List α->List AV}{k:Nat}(h:Mi f C k){t elem len:Nat}(hu:P.underlying t=some (.array len elem))(hs:(P.info? elem).map (·.size)=some k){l:List α}(hl:l.length=len){z:Int}{x:α}(hx:F9 l z=some x):CO P t (.el (C l)) (.sc (.int .i64 z))=some (.el (f x++C (l.drop (z.toNat+1)))):=by
 unfold F9 at hx;split at hx
 · rename_i hz
   have hi:=(abH.1 hx).1
   have hn:Tc (.sc (.int .i64 z))=some z.toNat:=by
     unfold Tc;simp[hz]
   cases he:P.info? elem with
   | none=>rw[he] at hs;cases hs
   | some e =>
     rw[he] at hs;have hk:e.size=k:=by simpa using hs
     subst hl;unfold CO;rw[hu,hn];simp only[he,hk,if_pos hi];rw[h.eq,h.eq,UR h.len hx]
 cases hx
def aMQ{t:TypeId}{x y:ByteArray}(h:x.data.toList.length+y.data.toList.length<=9223372036854775807)(ox oy:Operand):LG P .add t ox oy (.sc (.string x)) (.sc (.string y))=some (.sc (.string (x++y))):=by
 have h0:SY P .add t ox oy (.sc (.string x)) (.sc (.string y))=some (.sc (.string (x++y))):=by
   unfold SY aaJ;simp only[if_pos h,NF,W8];rfl
 unfold LG;simp only[h0,anG]
def pcv{t t2:TypeId}{a v:AV}(h:Ty P t t2 a=some v):PC P G:=⟨.w v,[.cv t t2 a v],⟨h,trivial⟩⟩
def ppn:PC P G:=⟨.p .any ⟨[],0,[],0⟩,[],trivial⟩
def pzq(c:Nat):PC P G:=⟨.zq c,[],trivial⟩
def aCS{f:FuncId}{args Zs:List AV}{v:AV}{pre:List (Nat×Ao)}{tp:List (Nat×Nat)}{SM:List (Nat×Ao)}{tu:List (Nat×Nat)}(w:Wn args Zs)(h:Cd.ok P G (.Ru f Zs (.pan v) pre tp SM tu)):PC P G :=
 ⟨.q v pre tp SM tu,[.Ru f args (.pan v) pre tp SM tu,.eqx (PZ pre) (PZ pre) (QO tp) (QO tp)],⟨λs h1 h2 cx wd vs hs ha=>h s h1 h2 cx wd vs hs (w.ok ha),⟨rfl,rfl⟩,trivial⟩⟩
end
end AI
namespace AI
open Go Go.RowKit
section
variable {P:Program} {G:AK}
variable {α γ δ ρ β:Type} {id:Nat} {ZD:List KI} {done:γ->δ} {X:Prop} {k:δ->Option β} {kr:ρ->Option β} {r:β}
end
end AI
