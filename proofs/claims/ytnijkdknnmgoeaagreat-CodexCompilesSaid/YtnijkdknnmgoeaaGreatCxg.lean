/- Part of a proof: see the last text. -/
import Derived.Test.YtnijkdknnmgoeaaGreatCxf
import Derived.Laws.StructEq
set_option linter.unusedVariables false
set_option linter.unusedSimpArgs false
namespace AI
open Go Go.RowKit
inductive Wn:List AV→List AV→Prop where
 | nil:Wn [] []
 | r {a:AV} {l k:List AV} (t:Wn l k):Wn (a::l) (a::k)
 | s {o:Own} {n:Nat} {cs ds l k:List AV} (h:cs=ds) (t:Wn l k):Wn (.sl o n cs::l) (.sl .lost n ds::k)
 | d {o:Own} {n:Nat} {cs ds es l k:List AV} (h:Wn cs ds) (e:ds=es) (t:Wn l k):Wn (.sl o n cs::l) (.sl .lost n es::k)
 | g {cs ds l k:List AV} (h:Wn cs ds) (t:Wn l k):Wn (.agg cs::l) (.agg ds::k)
 | u {cs ds l k:List AV} (h:Wn cs ds) (t:Wn l k):Wn (.Bd cs::l) (.Bd ds::k)
theorem Wn.refl:∀ l:List AV,Wn l l
 | []=>.nil
 | _::l=>.r (Wn.refl l)
theorem Wn.len {l k:List AV} (h:Wn l k):l.length=k.length:=by
 induction h with
 | nil=>rfl
 | r _ ih=>simp [ih]
 | s _ _ ih=>simp [ih]
 | d _ _ _ _ ih=>simp [ih]
 | g _ _ _ ih=>simp [ih]
 | u _ _ _ ih=>simp [ih]
section
variable {c:Cx} {w:World}
mutual
theorem Wn.ok:∀ {l k:List AV},Wn l k→∀ {vs:List Value},Cz c w l vs→Cz c w k vs
 | _,_,.nil,_,hr=>hr
 | _,_,.r t,_,hr=>by cases hr with | cons h1 t1=>exact .cons h1 (t.ok t1)
 | _,_,.s h t,_,hr=>by
   subst h
   cases hr with
   | cons h1 t1 =>
     refine .cons ?_ (t.ok t1)
     cases h1 with
     | sl0 _=>exact .sl0 trivial
     | sl1 hn hc ho=>exact .sl1 hn hc trivial
 | _,_,.d h e t,_,hr=>by
   subst e
   cases hr with
   | cons h1 t1 =>
     refine .cons ?_ (t.ok t1)
     cases h1 with
     | sl0 _=>cases h;exact .sl0 trivial
     | sl1 hn hc ho=>exact .sl1 hn (h.jT hc) trivial
 | _,_,.g h t,_,hr=>by
   cases hr with
   | cons h1 t1 =>
     refine .cons ?_ (t.ok t1)
     cases h1 with
     | agg h2=>exact .agg (h.ok h2)
 | _,_,.u h t,_,hr=>by
   cases hr with
   | cons h1 t1 =>
     refine .cons ?_ (t.ok t1)
     cases h1 with
     | Bd h2=>exact .Bd (h.ok h2)
theorem Wn.jT:∀ {l k:List AV},Wn l k→∀ {g o:Nat},Bb c w g o l→Bb c w g o k
 | _,_,.nil,_,_,hr=>hr
 | _,_,.r t,_,_,hr=>by cases hr with | cons hv h1 t1=>exact .cons hv h1 (t.jT t1)
 | _,_,.s h t,_,_,hr=>by
   subst h
   cases hr with
   | cons hv h1 t1 =>
     refine .cons hv ?_ (t.jT t1)
     cases h1 with
     | sl0 _=>exact .sl0 trivial
     | sl1 hn hc ho=>exact .sl1 hn hc trivial
 | _,_,.d h e t,_,_,hr=>by
   subst e
   cases hr with
   | cons hv h1 t1 =>
     refine .cons hv ?_ (t.jT t1)
     cases h1 with
     | sl0 _=>cases h;exact .sl0 trivial
     | sl1 hn hc ho=>exact .sl1 hn (h.jT hc) trivial
 | _,_,.g h t,_,_,hr=>by
   cases hr with
   | cons hv h1 t1 =>
     refine .cons hv ?_ (t.jT t1)
     cases h1 with
     | agg h2=>exact .agg (h.ok h2)
 | _,_,.u h t,_,_,hr=>by
   cases hr with
   | cons hv h1 t1 =>
     refine .cons hv ?_ (t.jT t1)
     cases h1 with
     | Bd h2=>exact .Bd (h.ok h2)
end
end
theorem Wn.R7 {a b c d:List AV} (h:Wn a b) (k:Wn c d):Wn (a++c) (b++d):=by
 induction a generalizing b with
 | nil=>cases h;exact k
 | cons x a ih =>
   cases h with
   | r t=>exact .r (ih t)
   | s h t=>exact .s h (ih t)
   | d h e t=>exact .d h e (ih t)
   | g h t=>exact .g h (ih t)
   | u h t=>exact .u h (ih t)
theorem Rp.wnC {c:Cx} {w:World} {o:Own} {q:Nat} {cs ds:List AV} {u:Value} (h:Wn cs ds) (hr:Rp c w (.sl o q cs) u):Rp c w (.sl o q ds) u:=by
 cases hr with
 | sl0 h0=>cases h;exact .sl0 h0
 | sl1 hn hc ho=>exact .sl1 hn (h.jT hc) (by rw [← h.len];exact ho)
theorem Fits.wn {n m:Nat} {a b:AV} (h:Wn [a] [b]) (hp:AI.plain b=true):Fits n m a b:=fun c w v hr=>by
 have:=h.ok (.cons hr .nil)
 cases this with
 | cons h1 _=>exact Fits.plain hp c w v h1
section
variable {P:Program} {G:A8}
theorem BF (hm:P.follows .mixedOrders=true) (hG:∀ g cs,G g=some cs→Bu cs=true) {f:FuncId} {args:List AV} {v:AV} (h:WC P G (XS P G) H0 f args s0 (fun r _=>∃ a,r=.ret a∧Fits 0 0 a v)) (hp:Bu args=true) (hv:plain v=true):Pure P G f args v:=by
 obtain ⟨r,s',hj,a,rfl,hf⟩:=h
 have hS:=sound (X8 hm) hj
 intro s cx w vs hs hargs
 have hvis:∀ g i x,Kb cx w g i x→Kb ⟨w.heap.size,[],[],cx.T1⟩ w g i x:=by
   intro g i x hx
   refine ⟨hx.1,fun hsh=>?_,hx.2.2⟩
   rcases hsh with hsh | ⟨r,n,cap,sz,hr,_⟩ | hsh
   · cases hsh
   · simp at hr
   · exact hx.2.1 hsh
 have hst:St G ⟨w.heap.size,[],[],cx.T1⟩ w s0 :=
   ⟨rfl,trivial,(fun i j g h1=>by simp at h1),(fun g hg=>by cases hg),(fun id g b h1=>by simp at h1),rfl,(fun r g n cap sz hr=>by simp at hr),(fun r n hr=>by cases hr),(fun g hg=>by cases hg),(fun g i hb=>hs.QA hb),(fun r r' g n cap sz n' cap' sz' hr=>by simp at hr),(fun g cs hg=>Bb.plain hvis (hG g cs hg) (hs.glob g cs hg)),Nat.le_refl _⟩
 refine (hS _ w vs hst (Cz.plain hvis hp hargs)).mono ?_
 rintro e w' ⟨c',hx,_,u,rfl,hu⟩
 have hbel:=hx.below
 obtain ⟨x2,st2⟩:=hs.same (w':=w') ⟨hbel.os,hbel.tape,hbel.output,hbel.size,fun k hk _=>hbel.block k hk⟩
 refine ⟨cx,x2,st2,u,rfl,Rp.plain (c:=c'.upto 0 0) (fun g i x hvv=>⟨hvv.1,fun hsh=>hvv.2.1 (.inr (.inr ?_)),hvv.2.2⟩) hv (hf _ _ _ hu)⟩
 show c'.bad g i
 rw [hx.bad]
 exact hsh
def EQ (P:Program) (fn:Func) (m:Nat) (Q:AX→List AV→AS→Prop) (v:AV):Prop:=∀ a s2,Fits 0 0 a v→OE P fn m Q a s2
theorem EQ.body {fn:Func} {m:Nat} {v:AV}:EQ P fn m (OH P fn m (fun r _=>∃ a,r=.ret a∧Fits 0 0 a v)) v:=fun a _ h=>.body ⟨a,rfl,h⟩
theorem EQ.outer {fn:Func} {m id:Nat} {ks:List KI} {Q:AX→List AV→AS→Prop} {v:AV} (h:EQ P fn m Q v):EQ P fn m (CM id (CE P G ks Q)) v:=fun a s2 hf=>(h a s2 hf).outer
def NW {δ J:Type} (Q:AX→List AV→AS→Prop) (id:Nat) (F:δ→J→List AV) (S:δ→J→AS) (Ok:J→Prop) (d:δ):Prop:=∀ j,Ok j→Q (.exit id) (F d j) (S d j)
def mW (P:Program) (fn:Func):HR→Option (List Cd×AV)
 | some (.fin .ret,[],cd,fr,s)=>(match Gl P s fn fr with
   | some v=>some (cd,v)
   | none=>none)
 | _=>none
theorem Ap {r:HR} {X:Prop} {Q:AX→List AV→AS→Prop} {v w:AV} (fn:Func) (m:Nat) {l:List (PC P G)} (R:Tz P G l Q r X) (h:mW P fn r=some (dZ l,v)) (k:EQ P fn m Q w) (hf:Fits 0 0 v w):X:=by
 unfold mW at h
 split at h
 · rename_i cd fr' s'
   split at h
   · rename_i v' hv
     simp only [Option.some.injEq,Prod.mk.injEq] at h
     obtain ⟨rfl,rfl⟩:=h
     exact R _ _ _ _ rfl (Nv l) (k _ _ hf _ _ hv rfl)
   · cases h
 · cases h
theorem EQ.Em {fn:Func} {m:Nat} {L:Code} {s0:AS} {Q:AX→List AV→AS→Prop} {v:AV} (h:EQ P fn m Q v):EQ P fn m (Qk P G L s0 Q) v:=h
def GQ {δ ρ β:Type} (k:δ→Option β) (kr:ρ→Option β):δ⊕ρ→Option β
 | .inl d=>k d
 | .inr v=>kr v
def pk:PC P G:=⟨.k,[],trivial⟩
def pb {B b:Bool} (h:B=b):PC P G:=⟨.b b,[.eqb B b],⟨h,trivial⟩⟩
def pn {B b:Bool} (h:B=b):PC P G:=⟨.b (!b),[.eqb (!B) (!b)],⟨by show (!B)=(!b);rw [h],trivial⟩⟩
theorem uU {i:Nat} (h:i < 9223372036854775807):Nz .i64 (fW ((i:Nat):Int) 1)=((i+1:Nat):Int):=by
 rw [P0,Vy]
 have:=kU (i:=i+1) (by omega)
 rw [← this];rfl
def aeN (i:Nat) (h:i < 9223372036854775807):PC P G:=⟨.i ((i+1:Nat):Int),[.eqi (Nz .i64 (fW ((i:Nat):Int) 1)) ((i+1:Nat):Int)],⟨uU h,trivial⟩⟩
def An {f:FuncId} {args:List AV} {v:AV} (h:Pure P G f args v):PC P G:=⟨.w v,[.pur f args v],⟨h,trivial⟩⟩
def Fl {f:FuncId} {args args2:List AV} {v:AV} (w:Wn args args2) (h:Pure P G f args2 v):PC P G:=⟨.w v,[.pur f args v],⟨fun s cx wd vs hs ha=>h s cx wd vs hs (w.ok ha),trivial⟩⟩
def BT {t:TypeId} {a b v:AV} (h:B2 P t a b=some v):PC P G:=⟨.w v,[.idx t a b v],⟨h,trivial⟩⟩
def R6 {t:TypeId} {a b v:AV} (h:JG P t a b=some v):PC P G:=⟨.w v,[.ix t a b v],⟨h,trivial⟩⟩
def CD {op:BinOp} {t:TypeId} {x y:Operand} {a b v:AV} (h:IN P op t x y a b=some v):PC P G:=⟨.w v,[.bin op t x y a b v],⟨h,trivial⟩⟩
def PA {t:TypeId} {a:AV} {l h m:Option AV} {v:AV} (e:Hi P t a l h m=some v):PC P G:=⟨.o v,[.sli t a l h m v],⟨e,trivial⟩⟩
def BW (a b:Int):Int:=Nz .i64 (fW a b)
def Ua (a b:Int):Int:=Nz .i64 (sD a b)
def Ub (a b:Int):Int:=Nz .i64 (a*b)
def CP {α:Type} (l:List α) (z:Int):Option α:=if 0≤z then l[z.toNat]? else none
structure Kp {α:Type} (f:α→List AV) (C:List α→List AV) (k:Nat):Prop where
 eq:∀ l,C l=rows f l
 len:∀ x,(f x).length=k
 pl:∀ x,Bu (f x)=true
theorem Kp.R7 {α:Type} {f:α→List AV} {C:List α→List AV} {k:Nat} (h:Kp f C k) (l m:List α):C (l++m)=C l++C m:=by rw [h.eq,h.eq,h.eq,Rg]
theorem Kp.cons {α:Type} {f:α→List AV} {C:List α→List AV} {k:Nat} (h:Kp f C k) (x:α) (m:List α):C (x::m)=f x++C m:=by rw [h.eq,h.eq,HM]
theorem Kp.AW {α:Type} {f:α→List AV} {C:List α→List AV} {k:Nat} (h:Kp f C k) (l:List α):Bu (C l)=true:=by rw [h.eq];exact YA fun x _=>h.pl x
theorem Kp.Bk {α:Type} {f:α→List AV} {C:List α→List AV} {k:Nat} (h:Kp f C k) (l:List α):plain (.sl .lost l.length (C l))=true:=by simp only [plain,h.AW];rfl
theorem Kp.Dp {α:Type} {f:α→List AV} {C:List α→List AV} {k:Nat} (h:Kp f C k) (x:α):plain (.agg (f x))=true:=h.pl x
theorem Kp.ix {α:Type} {f:α→List AV} {C:List α→List AV} {k:Nat} (h:Kp f C k) {t elem:TypeId} (hu:P.underlying t=some (.slice elem)) (hs:(P.info? elem).map (·.size)=some k) (own:Own) {l:List α} {i:Nat} {x:α} (hx:l[i]?=some x):B2 P t (.sl own l.length (C l)) (.sc (.int .i64 ((i:Nat):Int)))=some (.el (f x++C (l.drop (i+1)))):=by
 cases hi:P.info? elem with
 | none=>rw [hi] at hs;cases hs
 | some e =>
   rw [hi] at hs
   rw [h.eq,h.eq]
   exact Yi hu hi (by simpa using hs) h.len hx
theorem Kp.ixz {α:Type} {f:α→List AV} {C:List α→List AV} {k:Nat} (h:Kp f C k) {t elem:TypeId} (hu:P.underlying t=some (.slice elem)) (hs:(P.info? elem).map (·.size)=some k) (own:Own) {l:List α} {z:Int} {x:α} (hx:CP l z=some x):B2 P t (.sl own l.length (C l)) (.sc (.int .i64 z))=some (.el (f x++C (l.drop (z.toNat+1)))):=by
 unfold CP at hx
 split at hx
 · rename_i hz
   have:=h.ix hu hs own hx
   rwa [Int.toNat_of_nonneg hz] at this
 · cases hx
theorem Kp.wn {α:Type} {f:α→List AV} {C:List α→List AV} {k:Nat} (h:Kp f C k) (m:List α) {a:List AV} (w:Wn a (rows f m)):Wn a (C m):=by rw [h.eq];exact w
theorem NL {α:Type} {f:α→List AV} {k:Nat} (hf:∀ x,(f x).length=k) (l:List α) (i:Nat):(rows f l).drop (i*k)=rows f (l.drop i):=by
 induction l generalizing i with
 | nil=>simp [rows]
 | cons x l ih =>
   cases i with
   | zero=>simp
   | succ i =>
     rw [HM,List.drop_append,hf x,List.drop_eq_nil_of_le (by rw [hf x,Nat.add_mul];omega),List.nil_append,List.drop_succ_cons,← ih i]
     congr 1
     rw [Nat.add_mul];omega
theorem NC {α:Type} {f:α→List AV} {k:Nat} (hf:∀ x,(f x).length=k) (l:List α) (i:Nat):(rows f l).take (i*k)=rows f (l.take i):=by
 induction l generalizing i with
 | nil=>simp [rows]
 | cons x l ih =>
   cases i with
   | zero=>simp [rows]
   | succ i =>
     rw [HM,List.take_append,hf x,List.take_of_length_le (by rw [hf x,Nat.add_mul];omega),List.take_succ_cons,HM,← ih i]
     congr 2
     rw [Nat.add_mul];omega
theorem Kp.sub {α:Type} {f:α→List AV} {C:List α→List AV} {k:Nat} (h:Kp f C k) {t elem:TypeId} (hu:P.underlying t=some (.slice elem)) (hs:(P.info? elem).map (·.size)=some k) (l q:Nat) {s:List α} (h1:l≤q) (h2:q≤s.length) (lo hi:Option AV) (e1:Ji 0 lo=some l) (e2:Ji s.length hi=some q) :
   Hi P t (.sl .lost s.length (C s)) lo hi none=some (.sl .lost ((s.drop l).take (q - l)).length (C ((s.drop l).take (q - l)))):=by
 cases hi':P.info? elem with
 | none=>rw [hi'] at hs;cases hs
 | some e =>
   rw [hi'] at hs
   have hk:e.size=k:=by simpa using hs
   unfold Hi
   simp only [hu,hi',e1,e2,hk]
   rw [if_pos ⟨h1,h2,by rw [h.eq,J7 h.len]⟩]
   have e3:(if l=0∧q=s.length then Own.lost else if q=s.length∧Own.lost=.full then .full else .lost)=.lost:=by
     split
     · rfl
     · split
       · rename_i hq;exact absurd hq.2 (by decide)
       · rfl
   rw [e3,h.eq,h.eq,NL h.len,NC h.len]
   congr 2
   simp;omega
noncomputable def W5 {β:Type} (f:Nat→Option β):Option β:=open Classical in if h:∃ y,∃ n0:Nat,∀ n,n0≤n→f n=some y then some (Classical.choose h) else none
theorem Ru {β:Type} {f:Nat→Option β} {y:β} (h:W5 f=some y):∃ n,f n=some y:=by
 unfold W5 at h
 split at h
 · rename_i hx
   obtain ⟨n0,hn⟩:=Classical.choose_spec hx
   rw [Option.some.inj h] at hn
   exact ⟨n0,hn n0 (Nat.le_refl _)⟩
 · cases h
theorem Jw {β:Type} {f:Nat→Option β} {y:β} (n0:Nat) (h:∀ n,n0≤n→f n=some y):W5 f=some y:=by
 unfold W5
 have hx:∃ y,∃ n0:Nat,∀ n,n0≤n→f n=some y:=⟨y,n0,h⟩
 rw [dif_pos hx]
 obtain ⟨n1,hn⟩:=Classical.choose_spec hx
 have h1:=h (max n0 n1) (Nat.le_max_left _ _)
 have h2:=hn (max n0 n1) (Nat.le_max_right _ _)
 rw [h1] at h2
 rw [Option.some.inj h2]
def Lt {β:Type} (n:Nat) (x:Option β):Option β:=if n≤100000000 then x else none
theorem tQ {β:Type} {n:Nat} {x:Option β} {r:β} (h:Lt n x=some r):n≤100000000∧x=some r:=by
 unfold Lt at h
 split at h
 · rename_i h1;exact ⟨h1,h⟩
 · cases h
theorem Kp.Q2 {α:Type} {f:α→List AV} {C:List α→List AV} {k:Nat} (h:Kp f C k) {t tx e e2 by':Nat} (hu:P.underlying t=some (.slice e)) (hux:P.underlying tx=some (.slice e2)) (hi:(P.info? e).map (fun i=>(i.size,i.bytes,i.zero.map (·.cells.size)))=some (k,by',some k)) (hk:0 < k) (hb:by'≤10000)
   (own:Own) (l m:List α) {o:Own} {n:Nat} {ns:List AV} (hn:Wn ns (C m)) (hnn:n=m.length) (ho:ns.all one=true) (hm:m.length≠0) (hlen:l.length+m.length≤100000000):Cd.ok P G (.Q2 t tx own l.length (C l) (.sl o n ns) k (l++m).length (C (l++m))):=by
 subst hnn
 cases hq:P.info? e with
 | none=>rw [hq] at hi;cases hi
 | some i =>
   rw [hq] at hi
   simp only [Option.map_some,Option.some.injEq,Prod.mk.injEq] at hi
   obtain ⟨h1,h2,h3⟩:=hi
   cases hz:i.zero with
   | none=>rw [hz] at h3;cases h3
   | some z =>
     rw [hz] at h3
     simp only [Option.map_some,Option.some.injEq] at h3
     intro s hown
     have hnl:ns.length=m.length*k:=by rw [hn.len,h.eq,J7 h.len]
     have hll:(C l).length=l.length*k:=by rw [h.eq,J7 h.len]
     refine ⟨C l++ns,?_,fun c w u o' hr=>?_⟩
     · have hs:Y1 P s i.size tx (.sl o m.length ns)=some (m.length,ns):=by
         unfold Y1
         rw [hux,h1]
         simp only [hnl,if_true]
       unfold KO
       simp only [hu,hq,hz]
       rw [if_pos ⟨by rw [h3,h1],by omega⟩,hs]
       simp only
       have hbb:(l.length+m.length)*i.bytes≤140737488355328:=by
         rw [h2]
         exact Nat.le_trans (Nat.mul_le_mul hlen hb) (by decide)
       rw [if_pos ⟨by rw [hll,h1],ho,hbb,by omega⟩,if_neg hm,h1,if_pos hown,List.length_append]
     · rw [h.R7]
       exact Rp.wnC (Wn.R7 (Wn.refl (C l)) hn) hr
def Nk {t tx:TypeId} {own:Own} {n:Nat} {cs:List AV} {b:AV} {sz k:Nat} {cs2:List AV} (h:Cd.ok P G (.Q2 t tx own n cs b sz k cs2)):PC P G :=
 match own with
 | .row r z=>⟨.g sz k cs2,[.Q2 t tx (.row r z) n cs b sz k cs2,.eqn n n],⟨h,rfl,trivial⟩⟩
 | .full=>⟨.g sz k cs2,[.Q2 t tx .full n cs b sz k cs2],⟨h,trivial⟩⟩
 | _=>⟨.g sz k cs2,[],trivial⟩
theorem AW {a:AV} {l:List AV} (h:plain a=true) (t:Bu l=true):Bu (a::l)=true:=by simp only [Bu,h,t];rfl
theorem kJ {a b:List AV} (ha:Bu a=true) (hb:Bu b=true):Bu (a++b)=true:=by
 induction a with
 | nil=>exact hb
 | cons x a ih =>
   simp only [Bu,Bool.and_eq_true,List.cons_append] at ha ⊢
   exact ⟨ha.1,ih ha.2⟩
theorem Av {n m:Nat} {a:AV} {l:List AV} (h:under n m a=true) (t:CZ n m l=true):CZ n m (a::l)=true:=by simp only [CZ,h,t];rfl
end
end AI
namespace AI
open Go Go.RowKit
theorem HU {P:Program} {α β:Type} (m:Sem α) (f:α→Sem β):pv P (m >>= f)=(pv P m).bind fun a=>pv P (f a):=by
 show pv P (m.bind f)=_
 induction m with
 | pure a=>rfl
 | program k ih=>exact ih P
 | mark _ k ih=>exact ih
 | _=>rfl
theorem KE {P:Program} {α:Type} (a:α):pv P (pure a:Sem α)=some a:=rfl
theorem OU {P:Program}:pv P program=some P:=rfl
theorem Ij {P:Program} {t:TypeId} {d:TypeDesc} (h:P.underlying t=some d):pv P (underlying t)=some d:=by
 unfold underlying
 rw [HU,OU]
 simp only [Option.bind_some,h]
 rfl
theorem uT {P:Program} {α:Type} (c:Prop) [Decidable c] (a b:Sem α):pv P (if c then a else b)=if c then pv P a else pv P b:=by split<;>rfl
theorem Qp {P:Program} (d:Nat) (t:TypeId) (xs ys:Array Value) (ht:P.underlying t=some (.struct (P.fieldsOf t))) (hp:P.stoodInHeld t=false) :
   pv P (Op.equalIn (d+1) t (.agg xs) (.agg ys))=pv P (Op.eqFields d xs ys (P.fieldsOf t).toList):=by
 simp only [Op.equalIn,HU,Ij ht,Option.bind_some,OU,hp,Bool.false_eq_true,if_false]
 rw [← Array.forIn_toList]
 generalize (P.fieldsOf t).toList=fs
 clear ht
 induction fs with
 | nil=>simp [Op.eqFields,KE]
 | cons f fs ih =>
   simp only [List.forIn_cons,Op.eqFields,HU,uT]
   split
   · generalize pv P (part f.type xs f.offset)=r1
     cases r1 with
     | none=>simp
     | some a =>
       simp only [Option.bind_some]
       generalize pv P (part f.type ys f.offset)=r2
       cases r2 with
       | none=>simp
       | some b =>
         simp only [Option.bind_some]
         generalize pv P (Op.equalIn d f.type a b)=r3
         cases r3 with
         | none=>simp
         | some r =>
           cases r
           · simp [KE]
           · simp only [Option.bind_some,Bool.not_true,Bool.false_eq_true,if_false,KE]
             exact ih
   · simp only [KE,Option.bind_some]
     exact ih
theorem pQ {P:Program} {t:TypeId} {k:IntKind} (h:P.underlying t=some (.int k)) (cs:Array Value) (off:Nat) {v:Value} (hv:cs[off]?=some v):pv P (part t cs off)=some v:=by
 unfold part isAgg
 simp [HU,Ij h,KE,hv]
theorem TU {P:Program} (d:Nat) {t:TypeId} {k k':IntKind} (a b:Int) (h:P.underlying t=some (.int k')):pv P (Op.equalIn (d+1) t (.int k a) (.int k b))=some (a == b):=by
 simp [Op.equalIn,HU,Ij h,KE]
theorem Xw {P:Program} (op:BinOp) (t:TypeId) (x y:Operand) (xs ys:Array Value) (hm:P.eqGuardType P.depth t=false):pv P (eqGuard op t x y (.agg xs) (.agg ys))=some ():=by
 cases op<;>simp [eqGuard,HU,OU,hm,KE]
def NR (P:Program) (t:TypeId):Nat:=match P.underlying t with
 | some (.int _)=>1
 | some .string=>2
 | _=>0
def wP:Value→Value→Option Bool
 | .int k a,.int k' b=>if k=k' then some (a == b) else none
 | .string a,.string b=>some (a == b)
 | _,_=>none
def Uk:List Value→List Value→Option Bool
 | [],[]=>some true
 | a::as,b::bs=>(wP a b).bind fun r=>(match r with | true=>Uk as bs | false=>some false)
 | _,_=>none
theorem Wx {P:Program} {t:TypeId} (h:NR P t≠0) (cs:Array Value) (off:Nat) {v:Value} (hv:cs[off]?=some v):pv P (part t cs off)=some v:=by
 unfold NR at h
 split at h
 · rename_i h1;exact pQ h1 cs off hv
 · rename_i h1
   unfold part isAgg
   simp [HU,Ij h1,KE,hv]
 · exact absurd rfl h
theorem aaE {P:Program} (d:Nat) {t:TypeId} {a b:Value} {r:Bool} (hk:(∃ k n m,a=.int k n∧b=.int k m∧NR P t=1)∨(∃ x y,a=.string x∧b=.string y∧NR P t=2)) (h:wP a b=some r):pv P (Op.equalIn (d+1) t a b)=some r:=by
 rcases hk with ⟨k,n,m,rfl,rfl,hk⟩ | ⟨x,y,rfl,rfl,hk⟩
 · unfold NR at hk
   split at hk
   · rename_i h1
     simp only [wP,if_true] at h
     rw [TU d n m h1];exact h
   · cases hk
   · cases hk
 · unfold NR at hk
   split at hk
   · cases hk
   · rename_i h1
     simp only [wP] at h
     rw [← h]
     simp [Op.equalIn,HU,Ij h1,KE]
   · cases hk
def XA:List Nat→List Value→Prop
 | [],[]=>True
 | k::ks,v::vs=>((∃ n,v=.int .i64 n∧k=1)∨(∃ x,v=.string x∧k=2))∧XA ks vs
 | _,_=>False
theorem bI {P:Program} (d:Nat):∀ (fs:List Field) (off:Nat) (ks:List Nat) (xs ys:List Value) (us vs:List Value) (r:Bool),fs.map (fun f=>NR P f.type)=ks→(∀ (i:Nat) f,fs[i]?=some f→f.name≠"_"∧f.offset=off+i)→xs.drop off=us→ys.drop off=vs→XA ks us→XA ks vs→Uk us vs=some r→pv P (Op.eqFields (d+1) xs.toArray ys.toArray fs)=some r:=by
 intro fs
 induction fs with
 | nil =>
   intro off ks xs ys us vs r hks _ hx hy h1 h2 h
   cases ks with
   | cons=>cases hks
   | nil =>
     cases us<;>cases vs<;>simp only [XA,Uk] at h1 h2 h
     rw [← h];rfl
 | cons f fs ih =>
   intro off ks xs ys us vs r hks hf hx hy h1 h2 h
   cases ks with
   | nil=>cases hks
   | cons k ks =>
     cases us with
     | nil=>cases h1
     | cons u us =>
       cases vs with
       | nil=>cases h2
       | cons v vs =>
         simp only [List.map_cons,List.cons.injEq] at hks
         obtain ⟨hk,hks⟩:=hks
         obtain ⟨hn,ho⟩:=hf 0 f rfl
         rw [Nat.add_zero] at ho
         have hxu:xs.toArray[off]?=some u:=by rw [List.getElem?_toArray,← List.head?_drop,hx];rfl
         have hyv:ys.toArray[off]?=some v:=by rw [List.getElem?_toArray,← List.head?_drop,hy];rfl
         have hk0:NR P f.type≠0:=by
           rw [hk]
           rcases h1.1 with ⟨_,_,e⟩ | ⟨_,_,e⟩<;>omega
         have hkk:(∃ k n m,u=.int k n∧v=.int k m∧NR P f.type=1)∨(∃ x y,u=.string x∧v=.string y∧NR P f.type=2):=by
           rw [hk]
           rcases h1.1 with ⟨n,e1,e2⟩ | ⟨n,e1,e2⟩<;>rcases h2.1 with ⟨m,e3,e4⟩ | ⟨m,e3,e4⟩
           · exact .inl ⟨_,n,m,e1,e3,e2⟩
           · omega
           · omega
           · exact .inr ⟨n,m,e1,e3,e2⟩
         simp only [Uk] at h
         cases hq:wP u v with
         | none=>rw [hq] at h;cases h
         | some q =>
           rw [hq] at h
           simp only [Op.eqFields,hn,ne_eq,not_false_eq_true,if_true,ho]
           simp only [HU,Wx hk0 xs.toArray off hxu,Wx hk0 ys.toArray off hyv,Option.bind_some,aaE d hkk hq]
           cases q with
           | false =>
             have:r=false:=by simpa using h.symm
             subst this;rfl
           | true =>
             have ih:=ih (off+1) ks xs ys us vs r hks (fun i f' hi=>by
               have:=hf (i+1) f' (by simpa using hi)
               exact ⟨this.1,by rw [this.2];omega⟩) (by rw [← List.tail_drop,hx];rfl) (by rw [← List.tail_drop,hy];rfl) h1.2 h2.2 (by simpa using h)
             simpa using ih
structure Flat (P:Program) (t:TypeId) (ks:List Nat):Prop where
 st:P.underlying t=some (.struct (P.fieldsOf t))
 hp:P.stoodInHeld t=false
 hm:P.eqGuardType P.depth t=false
 kd:(P.fieldsOf t).toList.map (fun f=>NR P f.type)=ks
 nm:(P.fieldsOf t).toList.map (fun f=>decide (f.name≠"_"))=List.replicate ks.length true
 of:(P.fieldsOf t).toList.map (fun f=>f.offset)=List.range ks.length
theorem cW (vs:List Value):LD (vs.map .sc)=some vs:=by
 induction vs with
 | nil=>rfl
 | cons v vs ih=>simp [LD,MX,ih]
theorem Flat.pv {P:Program} {t:TypeId} {ks:List Nat} (h:Flat P t ks) {us vs:List Value} {r:Bool} (h1:XA ks us) (h2:XA ks vs) (h3:Uk us vs=some r):AI.pv P (Op.equalIn (9998+1+1) t (.agg us.toArray) (.agg vs.toArray))=some r:=by
 rw [Qp _ _ _ _ h.st h.hp]
 refine bI 9998 _ 0 ks us vs us vs r h.kd (fun i f hf=>?_) rfl rfl h1 h2 h3
 have hl:i < ks.length:=by
   have:=(List.getElem?_eq_some_iff.1 hf).1
   have h5:=congrArg List.length h.kd
   simp at h5 this
   omega
 have a1:=congrArg (fun l=>l[i]?) h.nm
 have a2:=congrArg (fun l=>l[i]?) h.of
 simp only [List.getElem?_map,hf,Option.map_some,List.getElem?_replicate,hl,if_true,Option.some.injEq,decide_eq_true_eq] at a1
 simp only [List.getElem?_map,hf,Option.map_some,List.getElem?_range hl,Option.some.injEq] at a2
 exact ⟨a1,by omega⟩
theorem Flat.bin {P:Program} {t:TypeId} {ks:List Nat} (h:Flat P t ks) {us vs:List Value} {r:Bool} (h1:XA ks us) (h2:XA ks vs) (h3:Uk us vs=some r) (x y:Operand) :
   IN P .eql t x y (.agg (us.map .sc)) (.agg (vs.map .sc))=some (.sc (.bool r))∧IN P .neq t x y (.agg (us.map .sc)) (.agg (vs.map .sc))=some (.sc (.bool (!r))):=by
 have ht:∀ l:List Value,PM (.agg (l.map .sc))=some (.agg l.toArray):=fun l=>by simp only [PM,cW,Option.map_some]
 have hv:=h.pv h1 h2 h3
 have e1:AI.pv P (do eqGuard .eql t x y (.agg us.toArray) (.agg vs.toArray);binOp .eql t (.agg us.toArray) (.agg vs.toArray))=some (.bool r):=by
   rw [HU,Xw _ _ _ _ _ _ h.hm]
   simp only [Option.bind_some,binOp,HU,Op.equal,Op.maxDepth]
   rw [show (10000:Nat)=9998+1+1 from rfl,hv]
   rfl
 have e2:AI.pv P (do eqGuard .neq t x y (.agg us.toArray) (.agg vs.toArray);binOp .neq t (.agg us.toArray) (.agg vs.toArray))=some (.bool (!r)):=by
   rw [HU,Xw _ _ _ _ _ _ h.hm]
   simp only [Option.bind_some,binOp,HU,Op.equal,Op.maxDepth]
   rw [show (10000:Nat)=9998+1+1 from rfl,hv]
   rfl
 refine ⟨?_,?_⟩
 · show ON _ _ _ _ _ (.agg _) (.agg _)=_
   unfold ON
   simp only [ht,e1,Option.bind_some];rfl
 · show ON _ _ _ _ _ (.agg _) (.agg _)=_
   unfold ON
   simp only [ht,e2,Option.bind_some];rfl
def acX (x y:Int):Int:=if y > x then y else x
def cF (x y:Int):Int:=if y < x then y else x
end AI
namespace AI
open Go Go.RowKit
mutual
inductive Rn (k j:Nat) (ρ σ:Nat→Nat):AV→AV→Prop where
 | pl {a:AV} (h:plain a=true):Rn k j ρ σ a a
 | ptr {i off:Nat} (h:i < k):Rn k j ρ σ (.ptr i off) (.ptr (ρ i) off)
 | mp {i:Nat} (h:i < k):Rn k j ρ σ (.mp i) (.mp (ρ i))
 | msl {i off n:Nat} (h:i < k):Rn k j ρ σ (.msl i off n) (.msl (ρ i) off n)
 | row {r sz n:Nat} {cs:List AV} (h:r < j) (hp:Bu cs=true):Rn k j ρ σ (.sl (.row r sz) n cs) (.sl (.row (σ r) sz) n cs)
 | agg {cs ds:List AV} (h:OF k j ρ σ cs ds):Rn k j ρ σ (.agg cs) (.agg ds)
 | Bd {cs ds:List AV} (h:OF k j ρ σ cs ds):Rn k j ρ σ (.Bd cs) (.Bd ds)
 | fn {f:Fn} {a a' b b':List AV} (h1:OF k j ρ σ a a') (h2:OF k j ρ σ b b'):Rn k j ρ σ (.fn f a b) (.fn f a' b')
inductive OF (k j:Nat) (ρ σ:Nat→Nat):List AV→List AV→Prop where
 | nil:OF k j ρ σ [] []
 | cons {a b:AV} {l m:List AV} (h:Rn k j ρ σ a b) (t:OF k j ρ σ l m):OF k j ρ σ (a::l) (b::m)
end
inductive ZB (k j:Nat) (ρ σ:Nat→Nat):A5→A5→Prop where
 | cells {cs ds:List AV} (h:OF k j ρ σ cs ds):ZB k j ρ σ (.cells cs) (.cells ds)
 | map {es:List (Value×AV×Nat)} {cl:Nat} (h:∀ e∈es,plain e.2.1=true):ZB k j ρ σ (.map es cl) (.map es cl)
theorem OF.pl {k j:Nat} {ρ σ:Nat→Nat}:∀ {l:List AV},Bu l=true→OF k j ρ σ l l
 | [],_=>.nil
 | a::l,h=>by
   simp only [Bu,Bool.and_eq_true] at h
   exact .cons (.pl h.1) (OF.pl h.2)
section
variable {c c':Cx} {w w':World} {k j:Nat} {ρ σ:Nat→Nat}
structure Dn (k j:Nat) (ρ σ:Nat→Nat) (c:Cx) (w:World) (c0:Cx) (w0:World):Prop where
 vis:∀ g i v,Kb c w g i v→Kb c0 w0 g i v
 Cl:∀ i g,i < k→c.Cl[ρ i]?=some (some g)→c0.Cl[i]?=some (some g)
 rows:∀ r,r < j→∃ x,c.rows[σ r]?=some x∧c0.rows[r]?=some x
structure Up (k j:Nat) (ρ σ:Nat→Nat) (c0:Cx) (w0:World) (c:Cx) (w:World):Prop where
 vis:∀ g i v,Kb c0 w0 g i v→Kb c w g i v
 Cl:∀ i g,i < k→c0.Cl[i]?=some (some g)→c.Cl[ρ i]?=some (some g)
 rows:∀ r,r < j→∃ x,c.rows[σ r]?=some x∧c0.rows[r]?=some x
mutual
theorem Rn.down (d:Dn k j ρ σ c w c' w'):∀ {a b:AV} {v:Value},Rn k j ρ σ a b→Rp c w b v→Rp c' w' a v:=by
 intro a b v hn h
 cases hn with
 | pl hp=>exact h.plain d.vis hp
 | ptr hi=>cases h with | ptr h1=>exact .ptr (d.Cl _ _ hi h1)
 | mp hi=>cases h with | mp h1=>exact .mp (d.Cl _ _ hi h1)
 | msl hi=>cases h with | msl hn h1=>exact .msl hn (d.Cl _ _ hi h1)
 | @row r sz n cs hr hp =>
   obtain ⟨x,hx,hx0⟩:=d.rows r hr
   have hl:=(List.getElem?_eq_some_iff.1 hx0).1
   cases h with
   | sl0 h0=>exact .sl0 ⟨h0.1,hl⟩
   | sl1 hn hc ho =>
     refine .sl1 hn (hc.plain d.vis hp) ⟨ho.1,ho.2.1,hl,fun e=>ho.2.2.2.1 ?_,fun g' n' cap' sz' e=>ho.2.2.2.2 g' n' cap' sz' ?_⟩
     · rw [hx,← hx0];exact e
     · rw [hx,← hx0];exact e
 | agg h1=>cases h with | agg h2=>exact .agg (OF.down d h1 h2)
 | Bd h1=>cases h with | Bd h2=>exact .Bd (OF.down d h1 h2)
 | fn h1 h2=>cases h with | fn h3 h4=>exact .fn (OF.down d h1 h3) (OF.down d h2 h4)
theorem OF.down (d:Dn k j ρ σ c w c' w'):∀ {a b:List AV} {v:List Value},OF k j ρ σ a b→Cz c w b v→Cz c' w' a v:=by
 intro a b v hn h
 cases hn with
 | nil=>cases h;exact .nil
 | cons h1 t=>cases h with | cons h2 t2=>exact .cons (Rn.down d h1 h2) (OF.down d t t2)
end
mutual
theorem Rn.up (d:Up k j ρ σ c w c' w'):∀ {a b:AV} {v:Value},Rn k j ρ σ a b→Rp c w a v→Rp c' w' b v:=by
 intro a b v hn h
 cases hn with
 | pl hp=>exact h.plain d.vis hp
 | ptr hi=>cases h with | ptr h1=>exact .ptr (d.Cl _ _ hi h1)
 | mp hi=>cases h with | mp h1=>exact .mp (d.Cl _ _ hi h1)
 | msl hi=>cases h with | msl hn h1=>exact .msl hn (d.Cl _ _ hi h1)
 | @row r sz n cs hr hp =>
   obtain ⟨x,hx,hx0⟩:=d.rows r hr
   have hl:=(List.getElem?_eq_some_iff.1 hx).1
   cases h with
   | sl0 h0=>exact .sl0 ⟨h0.1,hl⟩
   | sl1 hn hc ho =>
     refine .sl1 hn (hc.plain d.vis hp) ⟨ho.1,ho.2.1,hl,fun e=>ho.2.2.2.1 ?_,fun g' n' cap' sz' e=>ho.2.2.2.2 g' n' cap' sz' ?_⟩
     · rw [hx0,← hx];exact e
     · rw [hx0,← hx];exact e
 | agg h1=>cases h with | agg h2=>exact .agg (OF.up d h1 h2)
 | Bd h1=>cases h with | Bd h2=>exact .Bd (OF.up d h1 h2)
 | fn h1 h2=>cases h with | fn h3 h4=>exact .fn (OF.up d h1 h3) (OF.up d h2 h4)
theorem OF.up (d:Up k j ρ σ c w c' w'):∀ {a b:List AV} {v:List Value},OF k j ρ σ a b→Cz c w a v→Cz c' w' b v:=by
 intro a b v hn h
 cases hn with
 | nil=>cases h;exact .nil
 | cons h1 t=>cases h with | cons h2 t2=>exact .cons (Rn.up d h1 h2) (OF.up d t t2)
end
theorem Iz.plain (hv:∀ g i v,Kb c w g i v→Kb c' w' g i v):∀ {es:List (Value×AV×Nat)} {fs:List MapEntry},(∀ e∈es,AI.plain e.2.1=true)→Iz c w es fs→Iz c' w' es fs:=by
 intro es
 induction es with
 | nil=>intro fs _ h;cases h;exact .nil
 | cons e es ih =>
   intro fs hp h
   cases h with | cons h1 t=>exact .cons (h1.plain hv (hp _ List.mem_cons_self)) (ih (fun x hx=>hp x (List.mem_cons_of_mem _ hx)) t)
theorem ZB.down (d:Dn k j ρ σ c w c' w') {a b:A5} {o:Obj} (hn:ZB k j ρ σ a b) (h:Eg c w b o):Eg c' w' a o:=by
 cases hn with
 | cells h1=>cases h with | cellsX ext h2=>exact .cellsX ext (OF.down d h1 h2)
 | map hp=>cases h with | map h2=>exact .map (h2.plain d.vis hp)
theorem ZB.up (d:Up k j ρ σ c w c' w') {a b:A5} {o:Obj} (hn:ZB k j ρ σ a b) (h:Eg c w a o):Eg c' w' b o:=by
 cases hn with
 | cells h1=>cases h with | cellsX ext h2=>exact .cellsX ext (OF.up d h1 h2)
 | map hp=>cases h with | map h2=>exact .map (h2.plain d.vis hp)
end
structure Upd (k j:Nat) (ρ σ:Nat→Nat) (h2:List (Nat×A5)) (F2:List (Nat×Nat)) (s s2:AS):Prop where
 nx:s2.nx=s.nx
 nr:s2.nr=s.nr
 desc:∀ n,Hm s.h n→Hm s2.h n
 get:∀ id b,s2.get id=some b→(∃ i b0,i < k∧id=ρ i∧look i h2=some b0∧ZB k j ρ σ b0 b)∨((∀ i,i < k→id≠ρ i)∧s.get id=some b)
 tok:∀ q n,C8 q s2.F=some n→(∃ r,r < j∧q=σ r∧C8 r F2=some n)∨((∀ r,r < j→q≠σ r)∧C8 q s.F=some n)
def RnR (k j:Nat) (ρ σ:Nat→Nat):CR→CR→Prop
 | .ret v,.ret v'=>Rn k j ρ σ v v'
 | .pan v,.pan v'=>Rn k j ρ σ v v'
 | _,_=>False
theorem vP {P:Program} {G:A8} (hG:∀ g cs,G g=some cs→Bu cs=true) {f:FuncId} {args args':List AV} {r r':CR} {hm h2:List (Nat×A5)} {k j:Nat} {Fm F2:List (Nat×Nat)} (h:Sound P G (.call f args ⟨hm,k,Fm,j⟩ r ⟨h2,k,F2,j⟩)) (hd:Hm hm k)
   (ρ σ:Nat→Nat) (hinj:∀ i i',i < k→i' < k→ρ i=ρ i'→i=i') (hsinj:∀ i i',i < j→i' < j→σ i=σ i'→i=i') (hargs:OF k j ρ σ args args')
   {s s2:AS} (hget:∀ i b,i < k→look i hm=some b→∃ b',s.get (ρ i)=some b'∧ZB k j ρ σ b b')
   (hphi:∀ cx w vs,St G cx w s→Cz cx w args' vs→∀ i,i < k→∃ g,cx.Cl[ρ i]?=some (some g))
   (htok:∀ q n,q < j→C8 q Fm=some n→C8 (σ q) s.F=some n) (htall:∀ q,q < j→∃ n,C8 q Fm=some n) (hFm:∀ q n,C8 q Fm=some n→q < j)
   (hr:RnR k j ρ σ r r')
   (hu:Upd k j ρ σ h2 F2 s s2):Sound P G (.call f args' s r' s2):=by
 intro cx w vs hs ha
 have hph:=hphi cx w vs hs ha
 have hg:∀ i:Nat,∃ g,i < k→cx.Cl[ρ i]?=some (some g):=fun i=>by
   by_cases hi:i < k
   · obtain ⟨g,hg⟩:=hph i hi;exact ⟨g,fun _=>hg⟩
   · exact ⟨0,fun h=>absurd h hi⟩
 obtain ⟨gs,hgs⟩:=Classical.axiomOfChoice hg
 have hrw:∀ q:Nat,∃ x,q < j→cx.rows[σ q]?=some x:=fun q=>by
   by_cases hq:q < j
   · obtain ⟨n,hn⟩:=htall q hq
     rcases hs.rfree _ _ (htok q n hq hn) with ⟨h1,_⟩ | ⟨g,cap,sz,h1⟩
     · exact ⟨_,fun _=>h1⟩
     · exact ⟨_,fun _=>h1⟩
   · exact ⟨.gone,fun h=>absurd h hq⟩
 obtain ⟨rw,hrw⟩:=Classical.axiomOfChoice hrw
 have hmem:∀ i,i < k→some (gs i)∈cx.Cl:=fun i hi=>List.mem_of_getElem? (hgs i hi)
 have hgi:∀ i i',i < k→i' < k→gs i=gs i'→i=i':=fun i i' hi hi' e=>hinj i i' hi hi' (hs.nodup _ _ _ (hgs i hi) (by rw [e];exact hgs i' hi'))
 let K:Nat→Prop:=fun q=>(∃ i,i < k∧q=gs i)∨∃ r n cap sz,r < j∧cx.rows[σ r]?=some (.blk q n cap sz)
 let c0:Cx:=⟨0,(List.range k).map fun i=>some (gs i),(List.range j).map rw,fun q i=>¬ K q∧cx.T1 q i⟩
 have hphi0:∀ (i g:Nat),c0.Cl[i]?=some (some g)↔i < k∧g=gs i:=by
   intro i g
   show ((List.range k).map fun i=>some (gs i))[i]?=some (some g)↔_
   rw [List.getElem?_map]
   by_cases hi:i < k
   · rw [List.getElem?_range hi];simp [hi,eq_comm]
   · rw [List.getElem?_eq_none (by simp;omega)];simp [hi]
 have hmem0:∀ g,some g∈c0.Cl→∃ i,i < k∧g=gs i:=by
   intro g hg'
   obtain ⟨i,hi,e⟩:=List.mem_map.1 hg'
   exact ⟨i,List.mem_range.1 hi,(Option.some.inj e).symm⟩
 have hrow0:∀ (q:Nat) x,c0.rows[q]?=some x→q < j∧cx.rows[σ q]?=some x:=by
   intro q x hx
   have hx:((List.range j).map rw)[q]?=some x:=hx
   have hl:=(List.getElem?_eq_some_iff.1 hx).1
   simp at hl
   rw [List.getElem?_map,List.getElem?_range hl] at hx
   simp at hx
   subst hx
   exact ⟨hl,hrw q hl⟩
 have hrow0':∀ q,q < j→c0.rows[q]?=some (rw q):=by
   intro q hq
   show ((List.range j).map rw)[q]?=some (rw q)
   rw [List.getElem?_map,List.getElem?_range hq];rfl
 have hrlen0:c0.rows.length=j:=by show ((List.range j).map rw).length=j;simp
 have hvis:∀ g i x,Kb cx w g i x→Kb c0 w g i x:=by
   intro g i x hx
   refine ⟨hx.1,fun hsh=>?_,hx.2.2⟩
   rcases hsh with hsh | ⟨r,n,cap,sz,hr,h1,h2⟩ | hsh
   · obtain ⟨i',hi',rfl⟩:=hmem0 g hsh
     exact hx.2.1 (.inl (hmem i' hi'))
   · exact hx.2.1 (.inr (.inl ⟨σ r,n,cap,sz,(hrow0 _ _ hr).2,h1,h2⟩))
   · exact hx.2.1 hsh.2
 have hdn:Dn k j ρ σ cx w c0 w:=⟨hvis,fun i g hi hg'=>by
   rw [hphi0]
   rw [hgs i hi] at hg'
   cases hg'
   exact ⟨hi,rfl⟩,fun q hq=>⟨rw q,hrw q hq,hrow0' q hq⟩⟩
 have hst:St G c0 w ⟨hm,k,Fm,j⟩:=by
   refine ⟨by simp [c0],hd,fun i i' g h1 h2=>?_,fun g _=>Nat.zero_le _,fun id g b h1 h2=>?_,hrlen0.symm,fun q g n cap sz hq=>?_,fun q n hq=>?_,fun g hg'=>?_,(fun q i hb=>hs.QA hb.2),fun q q' g n cap sz n' cap' sz' h1 h2=>?_,(fun g cs hg'=>Bb.plain hvis (hG g cs hg') (hs.glob g cs hg')),Nat.zero_le _⟩
   · obtain ⟨hi,e1⟩:=(hphi0 i g).1 h1
     obtain ⟨hi',e2⟩:=(hphi0 i' g).1 h2
     exact hgi i i' hi hi' (e1.symm.trans e2)
   · obtain ⟨hi,rfl⟩:=(hphi0 id g).1 h1
     obtain ⟨b',hb',hn⟩:=hget id b hi h2
     obtain ⟨o,ho,hb⟩:=hs.box (ρ id) (gs id) _ (hgs id hi) hb'
     exact ⟨o,ho,hn.down hdn hb⟩
   · obtain ⟨hq1,hq2⟩:=hrow0 _ _ hq
     obtain ⟨_,_,a3,a4,a5⟩:=hs.row _ _ _ _ _ hq2
     refine ⟨fun i hb=>hb.1 (.inr ⟨q,n,cap,sz,hq1,hq2⟩),Nat.zero_le _,fun hm'=>?_,a4,a5⟩
     obtain ⟨i,hi,rfl⟩:=hmem0 g hm'
     exact a3 (hmem i hi)
   · have hlt:=hFm q n hq
     have:=hs.rfree _ _ (htok q n hlt hq)
     rw [hrw q hlt] at this
     rw [hrow0' q hlt]
     exact this
   · obtain ⟨i,hi,rfl⟩:=hmem0 g hg'
     exact hs.Jx (hmem i hi)
   · obtain ⟨a1,a2⟩:=hrow0 _ _ h1
     obtain ⟨b1,b2⟩:=hrow0 _ _ h2
     exact hsinj _ _ a1 b1 (hs.rdist _ _ _ _ _ _ _ _ _ a2 b2)
 refine (h c0 w vs hst (hargs.down hdn ha)).mono ?_
 rintro e w' ⟨c',hx,hst',hend⟩
 have hphi':c'.Cl=c0.Cl:=by
   obtain ⟨t,ht⟩:=hx.Cl
   have h1:c'.Cl.length=k:=hst'.len.symm
   have h2:c0.Cl.length=k:=by simp [c0]
   rw [← ht,List.length_append,h2] at h1
   have:t=[]:=List.eq_nil_of_length_eq_zero (by omega)
   rw [← ht,this,List.append_nil]
 have hrlen':c'.rows.length=j:=hst'.rlen.symm
 have hrows':∀ q,q < j→∃ y,c'.rows[q]?=some y:=fun q hq=>⟨_,List.getElem?_eq_getElem (by rw [hrlen'];exact hq)⟩
 have hle:∀ q y,q < j→c'.rows[q]?=some y→JH (rw q) y:=by
   intro q y hq hy
   obtain ⟨x,h1,h2⟩:=hx.rows q y (by rw [hrlen0];exact hq) hy
   rw [hrow0' q hq] at h1
   cases h1
   exact h2
 let rows1:List Rw:=(List.range cx.rows.length).map fun q=>open Classical in if hq:∃ r,r < j∧σ r=q then c'.rows.getD (Classical.choose hq) .gone else cx.rows.getD q .gone
 have hrows1:rows1.length=cx.rows.length:=by simp [rows1]
 have hr1s:∀ r,r < j→rows1[σ r]?=c'.rows[r]?:=by
   intro r hr
   have hl:=(List.getElem?_eq_some_iff.1 (hrw r hr)).1
   show ((List.range cx.rows.length).map _)[σ r]?=_
   rw [List.getElem?_map,List.getElem?_range hl]
   simp only [Option.map_some]
   have hq:∃ r',r' < j∧σ r'=σ r:=⟨r,hr,rfl⟩
   rw [dif_pos hq]
   have hc:=Classical.choose_spec hq
   have:Classical.choose hq=r:=hsinj _ _ hc.1 hr hc.2
   rw [this]
   obtain ⟨y,hy⟩:=hrows' r hr
   rw [List.getD_eq_getElem?_getD,hy];rfl
 have hr1o:∀ q,(∀ r,r < j→q≠σ r)→rows1[q]?=cx.rows[q]?:=by
   intro q hq
   by_cases hl:q < cx.rows.length
   · show ((List.range cx.rows.length).map _)[q]?=_
     rw [List.getElem?_map,List.getElem?_range hl]
     simp only [Option.map_some]
     rw [dif_neg (by rintro ⟨r,h1,h2⟩;exact hq r h1 h2.symm),List.getD_eq_getElem?_getD,List.getElem?_eq_getElem hl];rfl
   · rw [List.getElem?_eq_none (by omega),List.getElem?_eq_none (by omega)]
 have hcase:∀ q:Nat,(∃ r,r < j∧q=σ r)∨∀ r,r < j→q≠σ r:=fun q=>by
   by_cases hq:∃ r,r < j∧q=σ r
   · exact .inl hq
   · exact .inr fun r h1 h2=>hq ⟨r,h1,h2⟩
 have hnew:∀ r g n cap sz,r < j→c'.rows[r]?=some (.blk g n cap sz)→(∃ r0 n0 cap0 sz0,r0 < j∧cx.rows[σ r0]?=some (.blk g n0 cap0 sz0))∨w.heap.size≤g:=by
   intro r g n cap sz hr hy
   rcases hx.rnew _ _ _ _ _ hy with ⟨r0,n0,cap0,sz0,h1⟩ | h1
   · obtain ⟨h2,h3⟩:=hrow0 _ _ h1
     exact .inl ⟨r0,n0,cap0,sz0,h2,h3⟩
   · exact .inr h1
 have hbel:=hx.below
 have hchg:Xu w w' K:=⟨hbel.os,hbel.tape,hbel.output,hbel.size,fun q hq hne=>hx.keep q hq (fun hm'=>hne (.inl (hmem0 q hm'))) (fun r n cap sz hr=>hne (by
   obtain ⟨h1,h2⟩:=hrow0 _ _ hr
   exact .inr ⟨r,n,cap,sz,h1,h2⟩))⟩
 have hKb:∀ q,K q→cx.base≤q:=by
   rintro q (⟨i,hi,rfl⟩ | ⟨r,n,cap,sz,hr,h1⟩)
   · exact hs.low _ (hmem i hi)
   · exact (hs.row _ _ _ _ _ h1).2.1
 let c1:Cx:=⟨cx.base,cx.Cl,rows1,cx.bad⟩
 have hvis':∀ g i x,Kb c' w' g i x→Kb c1 w' g i x:=by
   intro g i x hv
   refine ⟨hv.1,fun hsh=>hv.2.1 ?_,hv.2.2⟩
   have hbad:¬ K g→cx.T1 g i→c'.T1 g i:=fun h1 h2=>.inr (.inr (by rw [hx.bad];exact ⟨h1,h2⟩))
   rcases hsh with hsh | ⟨q,n,cap,sz,hq,h1,h2⟩ | hsh
   · by_cases hK:K g
     · rcases hK with ⟨i',hi',rfl⟩ | ⟨r,n,cap,sz,hr,h1⟩
       · refine .inl ?_
         rw [hphi']
         exact List.mem_of_getElem? ((hphi0 i' (gs i')).2 ⟨hi',rfl⟩)
       · exact absurd hsh (hs.row _ _ _ _ _ h1).2.2.1
     · exact hbad hK (.inl hsh)
   · rcases hcase q with ⟨r,hr,rfl⟩ | hq'
     · simp only [c1] at hq
       rw [hr1s r hr] at hq
       exact .inr (.inl ⟨r,n,cap,sz,hq,h1,h2⟩)
     · simp only [c1] at hq
       rw [hr1o q hq'] at hq
       refine hbad ?_ (.inr (.inl ⟨q,n,cap,sz,hq,h1,h2⟩))
       rintro (⟨i',hi',rfl⟩ | ⟨r,n',cap',sz',hr,h3⟩)
       · exact (hs.row _ _ _ _ _ hq).2.2.1 (hmem i' hi')
       · exact hq' r hr (hs.rdist _ _ _ _ _ _ _ _ _ hq h3)
   · by_cases hK:K g
     · rcases hK with ⟨i',hi',rfl⟩ | ⟨r,n,cap,sz,hr,h1⟩
       · refine .inl ?_
         rw [hphi']
         exact List.mem_of_getElem? ((hphi0 i' (gs i')).2 ⟨hi',rfl⟩)
       · exact absurd hsh ((hs.row _ _ _ _ _ h1).1 i)
     · exact hbad hK (.inr (.inr hsh))
 have ext:Ext cx w c1 w':=by
   refine ⟨List.prefix_refl _,by simp [c1,hrows1],fun q y hq hy=>?_,fun g i x hv=>hvis' g i x (hx.vis g i x (hvis g i x hv)),hchg.below hs.bsz hKb,rfl,rfl,fun _ h=>.inl h,fun q g n cap sz hq=>?_,fun q hq hp hr=>hchg.block q hq ?_⟩
   · rcases hcase q with ⟨r,hr,rfl⟩ | hq'
     · simp only [c1] at hy
       rw [hr1s r hr] at hy
       exact ⟨rw r,hrw r hr,hle r y hr hy⟩
     · simp only [c1] at hy
       rw [hr1o q hq'] at hy
       exact ⟨y,hy,JH.refl y⟩
   · rcases hcase q with ⟨r,hr,rfl⟩ | hq'
     · simp only [c1] at hq
       rw [hr1s r hr] at hq
       rcases hnew _ _ _ _ _ hr hq with ⟨r0,n0,cap0,sz0,_,h1⟩ | h1
       · exact .inl ⟨_,_,_,_,h1⟩
       · exact .inr h1
     · simp only [c1] at hq
       rw [hr1o q hq'] at hq
       exact .inl ⟨_,_,_,_,hq⟩
   · rintro (⟨i',hi',rfl⟩ | ⟨r,n',cap',sz',hr',h3⟩)
     · exact hp (hmem i' hi')
     · exact hr _ _ _ _ h3
 have hup:Up k j ρ σ c' w' c1 w':=⟨hvis',fun i g hi hg'=>by
   rw [hphi',hphi0] at hg'
   obtain ⟨_,rfl⟩:=hg'
   exact hgs i hi,fun q hq=>by
   obtain ⟨y,hy⟩:=hrows' q hq
   exact ⟨y,by simp only [c1];rw [hr1s q hq];exact hy,hy⟩⟩
 have st1:St G c1 w' s2:=by
   refine ⟨by rw [hu.nx,hs.len],by rw [hu.nx];exact hu.desc _ hs.desc,hs.nodup,hs.low,fun id g b h1 h2=>?_,by rw [hu.nr,hs.rlen];exact hrows1.symm,fun q g n cap sz hq=>?_,fun q n hq=>?_,fun g hg'=>Nat.lt_of_lt_of_le (hs.plow g hg') hchg.size,fun g i hb=>Nat.lt_of_lt_of_le (hs.blow g i hb) hchg.size,fun q q' g n cap sz n' cap' sz' h1 h2=>?_,fun g cs hg'=>(hs.glob g cs hg').mono ext,Nat.le_trans hs.bsz hchg.size⟩
   · rcases hu.get id b h2 with ⟨i,b0,hi,rfl,hb0,hn⟩ | ⟨hne,h3⟩
     · obtain ⟨o,ho,hb⟩:=hst'.box i (gs i) b0 (by rw [hphi'];exact (hphi0 i (gs i)).2 ⟨hi,rfl⟩) hb0
       have h1:cx.Cl[ρ i]?=some (some g):=h1
       rw [hgs i hi] at h1
       cases h1
       exact ⟨o,ho,hn.up hup hb⟩
     · obtain ⟨o,ho,hb⟩:=hs.box id g b h1 h3
       refine ⟨o,?_,hb.mono ext⟩
       rw [hchg.block g (Array.getElem?_eq_some_iff.1 ho).1 ?_]
       · exact ho
       · rintro (⟨i',hi',rfl⟩ | ⟨r,n',cap',sz',hr',h4⟩)
         · exact hne i' hi' (hs.nodup _ _ _ h1 (hgs i' hi'))
         · exact (hs.row _ _ _ _ _ h4).2.2.1 (List.mem_of_getElem? h1)
   · simp only [c1] at hq ⊢
     rcases hcase q with ⟨r,hr',rfl⟩ | hq'
     · rw [hr1s r hr'] at hq
       obtain ⟨a1,a2,a3,a4,a5⟩:=hst'.row _ _ _ _ _ hq
       rcases hnew _ _ _ _ _ hr' hq with ⟨r0,n0,cap0,sz0,_,h4⟩ | h4
       · obtain ⟨b1,b2,b3,_⟩:=hs.row _ _ _ _ _ h4
         exact ⟨b1,b2,b3,a4,a5⟩
       · refine ⟨fun i hb=>?_,Nat.le_trans hs.bsz h4,fun hm'=>?_,a4,a5⟩
         · have:=hs.blow _ _ hb;omega
         · have:=hs.Jx hm';omega
     · rw [hr1o q hq'] at hq
       obtain ⟨a1,a2,a3,a4,vs',T,a5,a6⟩:=hs.row _ _ _ _ _ hq
       refine ⟨a1,a2,a3,a4,vs',T,?_,a6⟩
       rw [hchg.block g (Array.getElem?_eq_some_iff.1 a5).1 ?_]
       · exact a5
       · rintro (⟨i',hi',rfl⟩ | ⟨r,n',cap',sz',hr',h4⟩)
         · exact a3 (hmem i' hi')
         · exact hq' r hr' (hs.rdist _ _ _ _ _ _ _ _ _ hq h4)
   · simp only [c1]
     rcases hu.tok q n hq with ⟨r,hr',rfl,h3⟩ | ⟨hq',h3⟩
     · rw [hr1s r hr']
       exact hst'.rfree r n h3
     · rw [hr1o q hq']
       exact hs.rfree q n h3
   · simp only [c1] at h1 h2
     have key:∀ r q,r < j→(∀ r',r' < j→q≠σ r')→∀ n cap sz n' cap' sz',c'.rows[r]?=some (.blk g n cap sz)→cx.rows[q]?=some (.blk g n' cap' sz')→False:=by
       intro r q hr' hq' n cap sz n' cap' sz' e1 e2
       rcases hnew _ _ _ _ _ hr' e1 with ⟨r0,n0,cap0,sz0,hr0,h4⟩ | h4
       · exact hq' r0 hr0 (hs.rdist _ _ _ _ _ _ _ _ _ e2 h4)
       · have:=hs.OZ e2;omega
     rcases hcase q with ⟨r,hr',rfl⟩ | hq1<;>rcases hcase q' with ⟨r2,hr2,rfl⟩ | hq2
     · rw [hr1s r hr'] at h1
       rw [hr1s r2 hr2] at h2
       rw [hst'.rdist _ _ _ _ _ _ _ _ _ h1 h2]
     · rw [hr1s r hr'] at h1
       rw [hr1o q' hq2] at h2
       exact (key r q' hr' hq2 _ _ _ _ _ _ h1 h2).elim
     · rw [hr1o q hq1] at h1
       rw [hr1s r2 hr2] at h2
       exact (key r2 q hr2 hq1 _ _ _ _ _ _ h2 h1).elim
     · rw [hr1o q hq1] at h1
       rw [hr1o q' hq2] at h2
       exact hs.rdist _ _ _ _ _ _ _ _ _ h1 h2
 refine ⟨c1,ext,st1,?_⟩
 cases r with
 | ret v =>
   cases r' with
   | ret v' =>
     obtain ⟨u,rfl,hu'⟩:=hend
     exact ⟨u,rfl,Rn.up hup hr hu'⟩
   | pan v'=>exact hr.elim
 | pan v =>
   cases r' with
   | ret v'=>exact hr.elim
   | pan v' =>
     obtain ⟨u,rfl,hu'⟩:=hend
     exact ⟨u,rfl,Rn.up hup hr hu'⟩
end AI
namespace AI
open Go Go.RowKit
def Qg:List A5→Nat→List (Nat×A5)→List (Nat×A5)
 | [],_,acc=>acc
 | b::l,n,acc=>Qg l (n+1) ((n,b)::acc)
def Yl:List Nat→Nat→List (Nat×Nat)
 | [],_=>[]
 | k::l,n=>(n,k)::Yl l (n+1)
theorem YB {M:List A5}:∀ {n:Nat} {acc:List (Nat×A5)} {i:Nat} {b:A5},Hm acc n→look i (Qg M n acc)=some b→(n≤i∧M[i - n]?=some b)∨look i acc=some b:=by
 induction M with
 | nil=>intro n acc i b _ h;exact .inr h
 | cons x M ih =>
   intro n acc i b hd h
   rcases ih (n:=n+1) (acc:=(n,x)::acc) ⟨Nat.lt_succ_self n,hd⟩ h with ⟨h1,h2⟩ | h1
   · refine .inl ⟨by omega,?_⟩
     rw [show i - n=(i - (n+1))+1 by omega]
     exact h2
   · simp only [look] at h1
     split at h1
     · rename_i hb
       have:=beq_true hb
       subst this
       cases h1
       exact .inl ⟨Nat.le_refl _,by simp⟩
     · exact .inr h1
theorem Yk {M:List A5}:∀ {n:Nat} {acc:List (Nat×A5)},Hm acc n→Hm (Qg M n acc) (n+M.length):=by
 induction M with
 | nil=>intro n acc h;exact h
 | cons x M ih =>
   intro n acc h
   have:=ih (n:=n+1) (acc:=(n,x)::acc) ⟨Nat.lt_succ_self n,h⟩
   rw [List.length_cons,show n+(M.length+1)=n+1+M.length by omega]
   exact this
theorem QU {T:List Nat}:∀ {n r k:Nat},C8 r (Yl T n)=some k→n≤r∧T[r - n]?=some k:=by
 induction T with
 | nil=>intro n r k h;cases h
 | cons x T ih =>
   intro n r k h
   simp only [Yl,C8] at h
   split at h
   · rename_i hb
     have:=beq_true hb
     subst this
     cases h
     exact ⟨Nat.le_refl _,by simp⟩
   · obtain ⟨h1,h2⟩:=ih h
     refine ⟨by omega,?_⟩
     rw [show r - n=(r - (n+1))+1 by omega]
     exact h2
theorem UK {T:List Nat}:∀ {n r:Nat},n≤r→r - n < T.length→∃ k,C8 r (Yl T n)=some k:=by
 induction T with
 | nil=>intro n r _ h;simp at h
 | cons x T ih =>
   intro n r h1 h2
   simp only [Yl,C8]
   split
   · exact ⟨_,rfl⟩
   · rename_i hb
     have:=beq_false hb
     exact ih (by omega) (by simp at h2;omega)
inductive SL (k j:Nat) (ρ σ:Nat→Nat):List A5→List (Nat×A5)→Prop where
 | nil:SL k j ρ σ [] []
 | cons {b b':A5} {i:Nat} {l:List A5} {m:List (Nat×A5)} (h:ZB k j ρ σ b b') (t:SL k j ρ σ l m):SL k j ρ σ (b::l) ((i,b')::m)
theorem SL.len {k j:Nat} {ρ σ:Nat→Nat} {l:List A5} {m:List (Nat×A5)} (h:SL k j ρ σ l m):l.length=m.length:=by
 induction h with
 | nil=>rfl
 | cons _ _ ih=>simp [ih]
theorem SL.get {k j:Nat} {ρ σ:Nat→Nat} {l:List A5} {m:List (Nat×A5)} (h:SL k j ρ σ l m):∀ {i:Nat} {b:A5},l[i]?=some b→∃ e,m[i]?=some e∧ZB k j ρ σ b e.2:=by
 induction h with
 | nil=>intro i b hb;simp at hb
 | cons h _ ih =>
   intro i b hb
   cases i with
   | zero=>simp at hb;subst hb;exact ⟨_,rfl,h⟩
   | succ i=>exact ih (by simpa using hb)
theorem SL.adu {k j:Nat} {ρ σ:Nat→Nat} {l:List A5} {m:List (Nat×A5)} (h:SL k j ρ σ l m):∀ {i:Nat} {e:Nat×A5},m[i]?=some e→∃ b,l[i]?=some b∧ZB k j ρ σ b e.2:=by
 induction h with
 | nil=>intro i b hb;simp at hb
 | cons h _ ih =>
   intro i b hb
   cases i with
   | zero=>simp at hb;subst hb;exact ⟨_,rfl,h⟩
   | succ i=>exact ih (by simpa using hb)
theorem Wp:∀ (l:List (Nat×A5)) (s:AS) (id:Nat) (b:A5),(s.QV l).get id=some b→(∃ e∈l,e.1=id∧e.2=b)∨((∀ e∈l,e.1≠id)∧s.get id=some b)
 | [],s,id,b,h=>.inr ⟨(fun e he=>by cases he),h⟩
 | e::l,s,id,b,h=>by
   rcases Wp l (s.put e.1 e.2) id b h with ⟨x,hx,h1⟩ | ⟨h1,h2⟩
   · exact .inl ⟨x,List.mem_cons_of_mem _ hx,h1⟩
   · rcases PZ h2 with ⟨h3,h4⟩ | ⟨h3,h4⟩
     · exact .inl ⟨e,List.mem_cons_self,h3.symm,h4.symm⟩
     · refine .inr ⟨fun x hx=>?_,h4⟩
       rcases List.mem_cons.1 hx with rfl | hx
       · exact fun e=>h3 e.symm
       · exact h1 x hx
theorem Ur:∀ (l:List (Nat×A5)) (s:AS),(s.QV l).nx=s.nx∧(s.QV l).nr=s.nr∧(s.QV l).F=s.F∧∀ n,Hm s.h n→Hm (s.QV l).h n
 | [],s=>⟨rfl,rfl,rfl,fun _ h=>h⟩
 | e::l,s=>by
   obtain ⟨h1,h2,h3,h4⟩:=Ur l (s.put e.1 e.2)
   exact ⟨h1,h2,h3,fun n h=>h4 n (P2 h)⟩
theorem Uu:∀ (l:List (Nat×Nat)) (s:AS) (q n:Nat),C8 q (s.OL l).F=some n→(∃ e∈l,e.1=q∧e.2=n)∨((∀ e∈l,e.1≠q)∧C8 q s.F=some n)
 | [],s,q,n,h=>.inr ⟨(fun e he=>by cases he),h⟩
 | e::l,s,q,n,h=>by
   rcases Uu l _ q n h with ⟨x,hx,h1⟩ | ⟨h1,h2⟩
   · exact .inl ⟨x,List.mem_cons_of_mem _ hx,h1⟩
   · rcases Un h2 with ⟨h3,h4,_⟩ | ⟨h3,h4⟩
     · exact .inl ⟨e,List.mem_cons_self,h3.symm,h4.symm⟩
     · refine .inr ⟨fun x hx=>?_,h4⟩
       rcases List.mem_cons.1 hx with rfl | hx
       · exact fun e=>h3 e.symm
       · exact h1 x hx
theorem TS:∀ (l:List (Nat×Nat)) (s:AS),(s.OL l).nx=s.nx∧(s.OL l).nr=s.nr∧(s.OL l).h=s.h
 | [],s=>⟨rfl,rfl,rfl⟩
 | e::l,s=>TS l _
theorem SE:∀ {l:List (Nat×A5)} {s:AS},Se s l=N3 l→∀ {i:Nat} {e:Nat×A5},l[i]?=some e→s.get e.1=some e.2
 | [],s,_,i,e,he=>by simp at he
 | x::l,s,h,i,e,he=>by
   simp only [Se,N3,List.cons.injEq] at h
   cases i with
   | zero=>simp at he;subst he;exact h.1
   | succ i=>exact SE h.2 (by simpa using he)
theorem Wl:∀ {l:List (Nat×Nat)} {F:List (Nat×Nat)},Vf F l=OA l→∀ {i:Nat} {e:Nat×Nat},l[i]?=some e→C8 e.1 F=some e.2
 | [],s,_,i,e,he=>by simp at he
 | x::l,s,h,i,e,he=>by
   simp only [Vf,OA,List.cons.injEq] at h
   cases i with
   | zero=>simp at he;subst he;exact h.1
   | succ i=>exact Wl h.2 (by simpa using he)
mutual
inductive lC (id:Nat):AV→Prop where
 | ptr {off:Nat}:lC id (.ptr id off)
 | mp:lC id (.mp id)
 | msl {off n:Nat}:lC id (.msl id off n)
 | agg {cs:List AV} (h:Qd id cs):lC id (.agg cs)
 | fn1 {f:Fn} {a b:List AV} (h:Qd id a):lC id (.fn f a b)
 | fn2 {f:Fn} {a b:List AV} (h:Qd id b):lC id (.fn f a b)
inductive Qd (id:Nat):List AV→Prop where
 | here {a:AV} {l:List AV} (h:lC id a):Qd id (a::l)
 | there {a:AV} {l:List AV} (h:Qd id l):Qd id (a::l)
end
mutual
theorem lC.Cl {c:Cx} {w:World} {id:Nat}:∀ {a:AV} {v:Value},lC id a→Rp c w a v→∃ g,c.Cl[id]?=some (some g):=by
 intro a v ho h
 cases ho with
 | ptr=>cases h with | ptr h1=>exact ⟨_,h1⟩
 | mp=>cases h with | mp h1=>exact ⟨_,h1⟩
 | msl=>cases h with | msl hn h1=>exact ⟨_,h1⟩
 | agg h1=>cases h with | agg h2=>exact Qd.Cl h1 h2
 | fn1 h1=>cases h with | fn h2 h3=>exact Qd.Cl h1 h2
 | fn2 h1=>cases h with | fn h2 h3=>exact Qd.Cl h1 h3
theorem Qd.Cl {c:Cx} {w:World} {id:Nat}:∀ {a:List AV} {v:List Value},Qd id a→Cz c w a v→∃ g,c.Cl[id]?=some (some g):=by
 intro a v ho h
 cases ho with
 | here h1=>cases h with | cons h2 _=>exact lC.Cl h1 h2
 | there h1=>cases h with | cons _ h2=>exact Qd.Cl h1 h2
end
inductive Rch (args:List AV) (pre:List (Nat×A5)):Nat→Prop where
 | arg {id:Nat} (h:Qd id args):Rch args pre id
 | box {i id p:Nat} {cs:List AV} (h:Rch args pre i) (hp:pre[p]?=some (i,.cells cs)) (ho:Qd id cs):Rch args pre id
theorem Rch.Cl {G:A8} {args:List AV} {pre:List (Nat×A5)} {s:AS} (hb:Se s pre=N3 pre) {cx:Cx} {w:World} {vs:List Value} (hs:St G cx w s) (ha:Cz cx w args vs) {id:Nat} (h:Rch args pre id):∃ g,cx.Cl[id]?=some (some g):=by
 induction h with
 | arg h=>exact h.Cl ha
 | box h hp ho ih =>
   obtain ⟨g,hg⟩:=ih
   obtain ⟨o,_,hbo⟩:=hs.box _ g _ hg (SE hb hp)
   cases hbo with
   | cellsX ext hr=>exact ho.Cl hr
def Jr {β:Type} (l:List (Nat×β)) (i:Nat):Nat:=match l[i]? with
 | some e=>e.1
 | none=>0
theorem Jf {β:Type} {l:List (Nat×β)} {i:Nat} {e:Nat×β} (h:l[i]?=some e):Jr l i=e.1:=by unfold Jr;rw [h]
def keys {β:Type} (l:List (Nat×β)):List Nat:=l.map (·.1)
theorem UP {β:Type} {l:List (Nat×β)} (h:(keys l).Nodup) {i i':Nat} (hi:i < l.length) (hi':i' < l.length) (e:Jr l i=Jr l i'):i=i':=by
 have h1:(keys l)[i]?=some (Jr l i):=by
   unfold keys
   rw [List.getElem?_map,List.getElem?_eq_getElem hi,Jf (List.getElem?_eq_getElem hi)];rfl
 have h2:(keys l)[i']?=some (Jr l i'):=by
   unfold keys
   rw [List.getElem?_map,List.getElem?_eq_getElem hi',Jf (List.getElem?_eq_getElem hi')];rfl
 rw [← e] at h2
 exact c4 h h1 h2
theorem MQ {β β':Type} {l:List (Nat×β)} {m:List (Nat×β')} (h:keys l=keys m) (i:Nat):Jr l i=Jr m i:=by
 have h1:=congrArg (fun x=>x[i]?) h
 unfold keys at h1
 simp only [List.getElem?_map] at h1
 unfold Jr
 cases hl:l[i]?<;>cases hm:m[i]?<;>rw [hl,hm] at h1<;>simp at h1<;>simp [h1]
theorem CS {P:Program} {G:A8} (hG:∀ g cs,G g=some cs→Bu cs=true) {f:FuncId} {args args':List AV} {r r':CR} {M M2:List A5} {T T2:List Nat} (pre ups:List (Nat×A5)) (tp tu:List (Nat×Nat)) {k j:Nat}
   (h:Sound P G (.call f args ⟨Qg M 0 [],k,Yl T 0,j⟩ r ⟨Qg M2 0 [],k,Yl T2 0,j⟩))
   (hk:M.length=k) (hj:T.length=j) (hj2:T2.length=j)
   (hku:keys ups=keys pre) (hkt:keys tu=keys tp) (hnb:(keys pre).Nodup) (hnt:(keys tp).Nodup)
   (htp:tp.map (·.2)=T) (htu:tu.map (·.2)=T2)
   (hb:SL k j (Jr pre) (Jr tp) M pre) (hb2:SL k j (Jr pre) (Jr tp) M2 ups)
   (hargs:OF k j (Jr pre) (Jr tp) args args')
   (hr:RnR k j (Jr pre) (Jr tp) r r')
   (hrch:∀ e∈pre,Rch args' pre e.1):Cd.ok P G (.callU f args' r' pre tp ups tu):=by
 intro s hgb hgf
 have hpl:pre.length=k:=by rw [← hb.len,hk]
 have htl:tp.length=j:=by rw [← hj,← htp,List.length_map]
 have hul:ups.length=k:=by
   have:=congrArg List.length hku
   simp only [keys,List.length_map] at this
   omega
 have htul:tu.length=j:=by rw [← hj2,← htu,List.length_map]
 refine vP hG h (by have:=Yk (M:=M) (n:=0) (acc:=[]) trivial;rw [Nat.zero_add,hk] at this;exact this) (Jr pre) (Jr tp) (fun i i' hi hi' e=>UP hnb (by omega) (by omega) e) (fun i i' hi hi' e=>UP hnt (by omega) (by omega) e) hargs (s:=s) (fun i b hi hl=>?_) (fun cx w vs hs ha i hi=>?_) (fun q n hq hl=>?_) (fun q hq=>?_) (fun q n hl=>?_) hr ?_
 · rcases YB (acc:=[]) trivial hl with ⟨_,h1⟩ | h1
   · rw [Nat.sub_zero] at h1
     obtain ⟨e,he,hn⟩:=hb.get h1
     exact ⟨e.2,by rw [Jf he];exact SE hgb he,hn⟩
   · cases h1
 · have he:pre[i]?=some pre[i]:=List.getElem?_eq_getElem (by omega)
   rw [Jf he]
   exact (hrch _ (List.mem_of_getElem? he)).Cl hgb hs ha
 · obtain ⟨_,h1⟩:=QU hl
   rw [Nat.sub_zero,← htp,List.getElem?_map] at h1
   cases he:tp[q]? with
   | none=>rw [he] at h1;cases h1
   | some e =>
     rw [he] at h1
     simp at h1
     rw [Jf he,← h1]
     exact Wl hgf he
 · exact UK (Nat.zero_le _) (by omega)
 · obtain ⟨_,h1⟩:=QU hl
   have:=(List.getElem?_eq_some_iff.1 h1).1
   omega
 · obtain ⟨a1,a2,a3,a4⟩:=Ur ups s
   obtain ⟨b1,b2,b3⟩:=TS tu (s.QV ups)
   refine ⟨by rw [b1,a1],by rw [b2,a2],fun n hd=>by rw [b3];exact a4 n hd,fun id b hg=>?_,fun q n hq=>?_⟩
   · have hg:(s.QV ups).get id=some b:=by
       unfold AS.get at hg ⊢
       rw [b3] at hg
       exact hg
     rcases Wp ups s id b hg with ⟨e,he,rfl,rfl⟩ | ⟨h1,h2⟩
     · obtain ⟨i,hi⟩:=List.mem_iff_getElem?.1 he
       have hil:=(List.getElem?_eq_some_iff.1 hi).1
       obtain ⟨b0,hb0,hn⟩:=hb2.adu hi
       refine .inl ⟨i,b0,by omega,by rw [← MQ hku,Jf hi],?_,hn⟩
       have:∀ (M:List A5) (n:Nat) (acc:List (Nat×A5)) (i:Nat) (b:A5),M[i]?=some b→(∀ e∈acc,e.1 < n)→look (n+i) (Qg M n acc)=some b:=by
         intro M
         induction M with
         | nil=>intro n acc i b h;simp at h
         | cons x M ih =>
           intro n acc i b h hacc
           cases i with
           | succ i =>
             have:=ih (n+1) ((n,x)::acc) i b (by simpa using h) (fun e he=>by
               rcases List.mem_cons.1 he with rfl | he
               · exact Nat.lt_succ_self _
               · have:=hacc e he;omega)
             rw [show n+(i+1)=n+1+i by omega]
             exact this
           | zero =>
             simp at h
             subst h
             simp only [Qg,Nat.add_zero]
             have hskip:∀ (M:List A5) (n':Nat) (acc:List (Nat×A5)),n < n'→look n (Qg M n' acc)=look n acc:=by
               intro M
               induction M with
               | nil=>intro n' acc _;rfl
               | cons y M ih2 =>
                 intro n' acc hlt
                 simp only [Qg]
                 rw [ih2 (n'+1) _ (by omega)]
                 simp only [look]
                 have:Nat.beq n' n=false:=by
                   cases hq:Nat.beq n' n with
                   | false=>rfl
                   | true=>have:=beq_true hq;omega
                 rw [this]
             rw [hskip M (n+1) _ (by omega)]
             simp only [look]
             rw [show Nat.beq n n=true from Nat.beq_refl n]
       have:=this M2 0 [] i b0 hb0 (fun e he=>by cases he)
       rwa [Nat.zero_add] at this
     · refine .inr ⟨fun i hi e=>?_,h2⟩
       have he:ups[i]?=some ups[i]:=List.getElem?_eq_getElem (by omega)
       refine h1 _ (List.mem_of_getElem? he) ?_
       rw [e,← MQ hku,Jf he]
   · rcases Uu tu _ q n hq with ⟨e,he,rfl,rfl⟩ | ⟨h1,h2⟩
     · obtain ⟨i,hi⟩:=List.mem_iff_getElem?.1 he
       have hil:=(List.getElem?_eq_some_iff.1 hi).1
       refine .inl ⟨i,by omega,by rw [← MQ hkt,Jf hi],?_⟩
       obtain ⟨kk,hkk⟩:=UK (T:=T2) (n:=0) (r:=i) (Nat.zero_le _) (by omega)
       obtain ⟨_,h3⟩:=QU hkk
       rw [Nat.sub_zero,← htu,List.getElem?_map,hi] at h3
       simp at h3
       rw [hkk,h3]
     · refine .inr ⟨fun i hi e=>?_,by rw [← a3];exact h2⟩
       have he:tu[i]?=some tu[i]:=List.getElem?_eq_getElem (by omega)
       refine h1 _ (List.mem_of_getElem? he) ?_
       rw [e,← MQ hkt,Jf he]
end AI
namespace AI
open Go Go.RowKit
section
variable {P:Program} {G:A8}
def QM (G:A8) (s0:AS) (r0:CR) (s2:AS):CR→AS→Prop:=fun r s'=>match r0 with
 | .ret v=>∃ a,r=.ret a∧aO G s0 [a] s' [v] s2
 | .pan v=>∃ a,r=.pan a∧aO G s0 [a] s' [v] s2
theorem CT (hm:P.follows .mixedOrders=true) {f:FuncId} {args:List AV} {s0 s2:AS} {r0:CR} (h:WC P G (XS P G) H0 f args s0 (QM G s0 r0 s2)):Sound P G (.call f args s0 r0 s2):=by
 obtain ⟨r,s',hj,hq⟩:=h
 have hS:=sound (X8 hm) hj
 intro cx w vs hs hargs
 refine (hS cx w vs hs hargs).mono ?_
 rintro e w' ⟨c',hx,hs',hend⟩
 cases r0 with
 | ret v =>
   obtain ⟨a,rfl,hf⟩:=hq
   obtain ⟨u,rfl,hu⟩:=hend
   obtain ⟨c2,x2,st2,f2⟩:=hf cx w c' w' [u] hx hs hs' (.cons hu .nil)
   cases f2 with
   | cons f3 _=>exact ⟨c2,x2,st2,u,rfl,f3⟩
 | pan v =>
   obtain ⟨a,rfl,hf⟩:=hq
   obtain ⟨u,rfl,hu⟩:=hend
   obtain ⟨c2,x2,st2,f2⟩:=hf cx w c' w' [u] hx hs hs' (.cons hu .nil)
   cases f2 with
   | cons f3 _=>exact ⟨c2,x2,st2,u,rfl,f3⟩
def Iu (P:Program) (G:A8) (fn:Func) (m:Nat) (s0:AS) (Q:AX→List AV→AS→Prop) (v:AV) (s2:AS):Prop:=∀ a s',aO G s0 [a] s' [v] s2→OE P fn m Q a s'
def Wr (G:A8) (m:Nat) (s0:AS) (Q:AX→List AV→AS→Prop) (v:AV) (s2:AS):Prop:=∀ a s',aO G s0 [a] s' [v] s2→Qb m Q a s'
theorem Iu.body {fn:Func} {m:Nat} {s0 s2:AS} {v:AV}:Iu P G fn m s0 (OH P fn m (QM G s0 (.ret v) s2)) v s2:=fun a s' hf=>.body ⟨a,rfl,hf⟩
theorem Wr.body {fn:Func} {m:Nat} {s0 s2:AS} {v:AV}:Wr G m s0 (OH P fn m (QM G s0 (.pan v) s2)) v s2:=fun a s' hf=>.body ⟨a,rfl,hf⟩
theorem Iu.outer {fn:Func} {m id:Nat} {ks:List KI} {s0 s2:AS} {Q:AX→List AV→AS→Prop} {v:AV} (h:Iu P G fn m s0 Q v s2):Iu P G fn m s0 (CM id (CE P G ks Q)) v s2:=fun a s' hf=>(h a s' hf).outer
theorem Iu.Em {fn:Func} {m:Nat} {L:Code} {s0 s1 s2:AS} {Q:AX→List AV→AS→Prop} {v:AV} (h:Iu P G fn m s0 Q v s2):Iu P G fn m s0 (Qk P G L s1 Q) v s2:=h
theorem Wr.outer {m id:Nat} {ks:List KI} {s0 s2:AS} {Q:AX→List AV→AS→Prop} {v:AV} (h:Wr G m s0 Q v s2):Wr G m s0 (CM id (CE P G ks Q)) v s2:=fun a s' hf=>(h a s' hf).outer
theorem Wr.Em {m:Nat} {L:Code} {s0 s1 s2:AS} {Q:AX→List AV→AS→Prop} {v:AV} (h:Wr G m s0 Q v s2):Wr G m s0 (Qk P G L s1 Q) v s2:=h
def AG {f:FuncId} {args:List AV} {v:AV} {pre:List (Nat×A5)} {tp:List (Nat×Nat)} {ups:List (Nat×A5)} {tu:List (Nat×Nat)} (h:Cd.ok P G (.callU f args (.ret v) pre tp ups tu)):PC P G :=
 ⟨.u v pre tp ups tu,[.callU f args (.ret v) pre tp ups tu,.eqx (N3 pre) (N3 pre) (OA tp) (OA tp)],⟨h,⟨rfl,rfl⟩,trivial⟩⟩
def oQ {f:FuncId} {args args2:List AV} {v:AV} {pre:List (Nat×A5)} {tp:List (Nat×Nat)} {ups:List (Nat×A5)} {tu:List (Nat×Nat)} (w:Wn args args2) (h:Cd.ok P G (.callU f args2 (.ret v) pre tp ups tu)):PC P G :=
 ⟨.u v pre tp ups tu,[.callU f args (.ret v) pre tp ups tu,.eqx (N3 pre) (N3 pre) (OA tp) (OA tp)],⟨fun s h1 h2 cx wd vs hs ha=>h s h1 h2 cx wd vs hs (w.ok ha),⟨rfl,rfl⟩,trivial⟩⟩
def pnz (l:List NZ):PC P G:=⟨.n l,[],trivial⟩
def pz (c:Nat):PC P G:=⟨.z c,[],trivial⟩
def pza:PC P G:=⟨.za,[],trivial⟩
def tB {b:A5} {t:TypeId} {off:Nat} {v:AV} (h:Cd.ok P G (.ldB b t off v)):PC P G:=⟨.lb b v,[.ldB b t off v,.eqx [some b] [some b] [] []],⟨h,⟨rfl,rfl⟩,trivial⟩⟩
def psb {b:A5} {t:TypeId} {off:Nat} {x:AV} {b2:A5} (h:Cd.ok P G (.stB b t off x b2)):PC P G:=⟨.sb b b2,[.stB b t off x b2,.eqx [some b] [some b] [] []],⟨h,⟨rfl,rfl⟩,trivial⟩⟩
def pmb {t:TypeId} {a x:AV} {n:Nat} {m:A5} (h:Cd.ok P G (.mkB t a x n m)):PC P G:=⟨.mb n m,[.mkB t a x n m],⟨h,trivial⟩⟩
end
end AI
namespace AI
open Go Go.RowKit
mutual
theorem Sb {n m n2 m2:Nat} (h1:n≤n2) (h2:m≤m2):∀ {a:AV},under n m a=true→under n2 m2 a=true
 | .sc _,_=>rfl
 | .agg cs,h=>by simp only [under] at h ⊢;exact Hv h1 h2 h
 | .Bd cs,h=>by simp only [under] at h ⊢;exact Hv h1 h2 h
 | .sl o k cs,h=>by
   simp only [under,Bool.and_eq_true] at h ⊢
   refine ⟨?_,Hv h1 h2 h.2⟩
   have h3:=h.1
   cases o with
   | row r z=>simp only [decide_eq_true_eq] at h3 ⊢;omega
   | _=>rfl
 | .msl id _ _,h=>by simp only [under,decide_eq_true_eq] at h ⊢;omega
 | .el cs,h=>by simp only [under] at h ⊢;exact Hv h1 h2 h
 | .ptr id _,h=>by simp only [under,decide_eq_true_eq] at h ⊢;omega
 | .fn _ a b,h=>by simp only [under,Bool.and_eq_true] at h ⊢;exact ⟨Hv h1 h2 h.1,Hv h1 h2 h.2⟩
 | .ifc _ v,h=>by simp only [under] at h ⊢;exact Sb h1 h2 h
 | .mp id,h=>by simp only [under,decide_eq_true_eq] at h ⊢;omega
 | .any,_=>rfl
theorem Hv {n m n2 m2:Nat} (h1:n≤n2) (h2:m≤m2):∀ {a:List AV},CZ n m a=true→CZ n2 m2 a=true
 | [],_=>rfl
 | a::l,h=>by simp only [CZ,Bool.and_eq_true] at h ⊢;exact ⟨Sb h1 h2 h.1,Hv h1 h2 h.2⟩
end
theorem Wn.z {l m:List AV} (t:Wn l m):Wn (.sl .full 0 []::l) (.sl .lost 0 []::m):=.s rfl t
theorem rS {P:Program} {G:A8} {r:HR} {X:Prop} {x:Value} {fn:Func} {m:Nat} {l:List (PC P G)} (R:Tz P G l (OH P fn m (fun r _=>∃ a,r=.ret a∧Fits 0 0 a (.sc x))) r X) (h:mW P fn r=some (dZ l,.sc x)):X:=Ap fn m R h .body .sc
abbrev JJ:=List Value×List AV
def yN:List Value→Nat→Value
 | [],_=>undef
 | v::_,0=>v
 | _::l,k+1=>yN l k
def aa0:List AV→Nat→AV
 | [],_=>.sc undef
 | v::_,0=>v
 | _::l,k+1=>aa0 l k
def jn (j:JJ) (k:Nat):Value:=yN j.1 k
def gn (j:JJ) (k:Nat):AV:=aa0 j.2 k
def frm:Nat→Nat→List (Nat×AV)→List Nat→Nat→List Nat→Nat→JJ→List AV
 | 0,_,_,_,_,_,_,_=>[]
 | n+1,p,l,bs,kb,gs,kg,j=>(match hd1 p l with
   | some v=>v::frm n (p+1) (l.drop 1) bs kb gs kg j
   | none=>(match hd2 p bs with
     | true=>.sc (jn j kb)::frm n (p+1) l (bs.drop 1) (kb+1) gs kg j
     | false=>(match hd2 p gs with
       | true=>gn j kg::frm n (p+1) l bs kb (gs.drop 1) (kg+1) j
       | false=>.any::frm n (p+1) l bs kb gs kg j)))
where
 hd1 (p:Nat):List (Nat×AV)→Option AV
   | []=>none
   | e::_=>(match Nat.beq e.1 p with | true=>some e.2 | false=>none)
 hd2 (p:Nat):List Nat→Bool
   | []=>false
   | e::_=>Nat.beq e p
structure Mm (κ ν:Type) where
 es:List (κ×ν×Nat)
 cl:Nat
section
variable {κ ν:Type} [DecidableEq κ]
def Hy (k:κ):List (κ×ν×Nat)→Nat→Option (Nat×ν)
 | [],_=>none
 | e::es,i=>if e.1=k then some (i,e.2.1) else Hy k es (i+1)
def Mm.get (m:Mm κ ν) (k:κ):Option ν:=(Hy k m.es 0).map (·.2)
def Mm.set (m:Mm κ ν) (k:κ) (v:ν):Mm κ ν:=match Hy k m.es 0 with
 | some (j,_)=>(match m.es[j]? with | some e=>⟨m.es.set j (k,v,e.2.2),m.cl⟩ | none=>m)
 | none=>⟨m.es++[(k,v,m.cl)],m.cl+1⟩
def Mm.nil:Mm κ ν:=⟨[],0⟩
theorem Mm.get_nil (k:κ):(Mm.nil:Mm κ ν).get k=none:=rfl
theorem bY (k k2:κ) (v:ν) (b:Nat):∀ (es:List (κ×ν×Nat)) (i:Nat),Hy k (es++[(k2,v,b)]) i=match Hy k es i with
   | some r=>some r
   | none=>if k2=k then some (i+es.length,v) else none:=by
 intro es
 induction es with
 | nil=>intro i;simp [Hy]
 | cons e es ih =>
   intro i
   simp only [List.cons_append,Hy]
   by_cases he:e.1=k
   · simp [he]
   · rw [if_neg he,if_neg he,ih (i+1)]
     cases Hy k es (i+1) with
     | some r=>rfl
     | none=>simp only [List.length_cons];rw [show i+1+es.length=i+(es.length+1) by omega]
theorem TR {k:κ}:∀ {es:List (κ×ν×Nat)} {i j:Nat} {v:ν},Hy k es i=some (j,v)→∃ m e,j=i+m∧es[m]?=some e∧e.1=k∧e.2.1=v:=by
 intro es
 induction es with
 | nil=>intro i j v h;cases h
 | cons e es ih =>
   intro i j v h
   simp only [Hy] at h
   split at h
   · rename_i he;cases h;exact ⟨0,e,rfl,rfl,he,rfl⟩
   · obtain ⟨m,e',h1,h2,h3⟩:=ih h
     exact ⟨m+1,e',by omega,by simpa using h2,h3⟩
theorem cX {k:κ} {v:ν}:∀ {es:List (κ×ν×Nat)} {i m b:Nat} {v0:ν},Hy k es i=some (i+m,v0)→∀ k',Hy k' (es.set m (k,v,b)) i=if k'=k then some (i+m,v) else Hy k' es i:=by
 intro es
 induction es with
 | nil=>intro i m b v0 h;cases h
 | cons e es ih =>
   intro i m b v0 h k'
   simp only [Hy] at h
   split at h
   · rename_i he
     have hm:m=0:=by have h5:=congrArg (fun o:Option (Nat×ν)=>o.map (·.1)) h;simp at h5;omega
     subst hm
     simp only [List.set_cons_zero,Hy,he]
     by_cases hk:k'=k
     · simp [hk]
     · have hk2:¬ k=k':=fun e=>hk e.symm
       simp [hk,hk2]
   · rename_i he
     obtain ⟨m',_,hm,_⟩:=TR h
     cases m with
     | zero=>omega
     | succ m =>
       simp only [List.set_cons_succ,Hy]
       have:=ih (i:=i+1) (m:=m) (b:=b) (by rw [show i+1+m=i+(m+1) by omega];exact h) k'
       by_cases hk:e.1=k'
       · rw [if_pos hk,if_pos hk]
         have:¬ k'=k:=fun e'=>he (hk.trans e')
         simp [this]
       · rw [if_neg hk,if_neg hk,this,show i+1+m=i+(m+1) by omega]
theorem Mm.Dz (m:Mm κ ν) (k:κ) (v:ν) (k':κ):(m.set k v).get k'=if k'=k then some v else m.get k':=by
 unfold Mm.get Mm.set
 cases hf:Hy k m.es 0 with
 | none =>
   simp only
   rw [bY]
   by_cases hk:k'=k
   · subst hk;rw [hf];simp
   · cases hf':Hy k' m.es 0 with
     | some r=>simp [hk]
     | none =>
       have hk2:¬ k=k':=fun e=>hk e.symm
       simp [hk,hk2]
 | some r =>
   obtain ⟨j,v0⟩:=r
   obtain ⟨q,e,h1,h2,h3,_⟩:=TR hf
   have hj:j=q:=by omega
   subst hj
   simp only [h2]
   rw [cX (i:=0) (m:=j) (v0:=v0) (by rw [Nat.zero_add];exact hf)]
   by_cases hk:k'=k<;>simp [hk]
end
def tX {κ ν:Type} (kv:κ→Value) (vv:ν→AV) (l:List (κ×ν×Nat)):List (Value×AV×Nat):=l.map fun e=>(kv e.1,vv e.2.1,e.2.2)
def mB {κ ν:Type} (kv:κ→Value) (vv:ν→AV) (m:Mm κ ν):A5:=.map (tX kv vv m.es) m.cl
structure Ux {κ:Type} [DecidableEq κ] (d:TypeDesc) (kv:κ→Value):Prop where
 pk:plainKey d=true
 same:∀ a b:κ,PX d (kv a) (kv b)=some (decide (b=a))
theorem S9 {κ ν:Type} [DecidableEq κ] {d:TypeDesc} {kv:κ→Value} {vv:ν→AV} (hk:Ux d kv) (k:κ):∀ (l:List (κ×ν×Nat)) (i:Nat),OM d (kv k) (tX kv vv l) i=some ((Hy k l i).map fun r=>(r.1,vv r.2)):=by
 intro l
 induction l with
 | nil=>intro i;rfl
 | cons e l ih =>
   intro i
   simp only [tX,List.map_cons,OM,hk.same,Hy]
   by_cases he:e.1=k
   · simp [he]
   · have:=ih (i+1)
     unfold tX at this
     simp [he,this]
theorem aN:Ux (κ:=Int) (.int .i64) (fun n=>.int .i64 n):=⟨rfl,fun a b=>by
 simp only [PX,if_true,Option.some.injEq]
 rw [Bool.eq_iff_iff,decide_eq_true_iff,beq_iff_eq]
 exact eq_comm⟩
theorem YO:Ux (κ:=ByteArray) .string (fun n=>.string n):=⟨rfl,fun a b=>by
 simp only [PX,Option.some.injEq]
 rw [Bool.eq_iff_iff,decide_eq_true_iff]
 simp only [beq_iff_eq]
 exact ⟨fun h=>(ByteArray.ext (Array.ext' h)).symm,fun h=>by rw [h]⟩⟩
section
variable {P:Program} {G:A8} {κ ν:Type} [DecidableEq κ] {t kt et:TypeId} {d:TypeDesc} {kv:κ→Value} {vv:ν→AV}
theorem Xp (ht:P.underlying t=some (.map kt et)) (hd:P.underlying kt=some d) (hk:Ux d kv) {z:ν} (hz:Hb P et=some (vv z)) (m:Mm κ ν) (k:κ):Cd.ok P G (.lkB (mB kv vv m) t (.sc (kv k)) false (vv ((m.get k).getD z))):=by
 intro s id hg
 unfold F5
 have hsc:MX (.sc (kv k))=some (kv k):=rfl
 simp only [ht,hd,hsc,hk.pk,if_true,hg,mB,S9 hk,Mm.get]
 cases Hy k m.es 0 with
 | none=>simp [hz]
 | some r=>simp
theorem YM (ht:P.underlying t=some (.map kt et)) (hd:P.underlying kt=some d) (hk:Ux d kv) {z:ν} (hz:Hb P et=some (vv z)) (m:Mm κ ν) (k:κ) {b:Bool} (hb:(m.get k).isSome=b):Cd.ok P G (.lkB (mB kv vv m) t (.sc (kv k)) true (.Bd [vv ((m.get k).getD z),.sc (.bool b)])):=by
 intro s id hg
 subst hb
 unfold F5
 have hsc:MX (.sc (kv k))=some (kv k):=rfl
 simp only [ht,hd,hsc,hk.pk,if_true,hg,mB,S9 hk,Mm.get]
 cases Hy k m.es 0 with
 | none=>simp [hz]
 | some r=>simp
theorem WH (ht:P.underlying t=some (.map kt et)) (hd:P.underlying kt=some d) (hk:Ux d kv) (m:Mm κ ν) (k:κ) (v:ν):Cd.ok P G (.msB (mB kv vv m) t (.sc (kv k)) (vv v) (mB kv vv (m.set k v))):=by
 intro s id hg
 unfold HQ
 have hsc:MX (.sc (kv k))=some (kv k):=rfl
 simp only [ht,hd,hsc,hk.pk,if_true,hg,mB,S9 hk,Mm.set]
 cases hf:Hy k m.es 0 with
 | none=>simp [tX]
 | some r =>
   obtain ⟨j,v0⟩:=r
   obtain ⟨q,e,h1,h2,h3,_⟩:=TR hf
   have hj:j=q:=by omega
   subst hj
   simp [h2,tX,List.map_set]
def Ko {b:A5} {t:TypeId} {k:AV} {ok:Bool} {v:AV} (h:Cd.ok P G (.lkB b t k ok v)):PC P G:=⟨.x b v,[.lkB b t k ok v,.eqx [some b] [some b] [] []],⟨h,⟨rfl,rfl⟩,trivial⟩⟩
def VS {b b2:A5} {t:TypeId} {k v:AV} (h:Cd.ok P G (.msB b t k v b2)):PC P G:=⟨.y b b2,[.msB b t k v b2,.eqx [some b] [some b] [] []],⟨h,⟨rfl,rfl⟩,trivial⟩⟩
end
section
variable {κ ν:Type} {kv:κ→Value} {vv:ν→AV}
theorem gP {n m:Nat} {μ:Mm κ ν} (h:∀ v,plain (vv v)=true):V2 n m (mB kv vv μ)=true:=by
 unfold mB V2 tX
 generalize μ.es=l
 induction l with
 | nil=>rfl
 | cons e l ih=>simp only [List.map_cons,PD,Ae _ _ (h _),ih,Bool.and_self]
theorem Jo {n m:Nat} {μ:Mm κ ν} (h:∀ v,plain (vv v)=true):Mh n m (mB kv vv μ) (mB kv vv μ):=.under (gP h)
theorem BK {k j:Nat} {ρ σ:Nat→Nat} {μ:Mm κ ν} (h:∀ v,plain (vv v)=true):ZB k j ρ σ (mB kv vv μ) (mB kv vv μ):=.map fun e he=>by
 unfold tX at he
 obtain ⟨a,_,rfl⟩:=List.mem_map.1 he
 exact h _
end
end AI
namespace AI
open Go
section
variable {α γ δ ρ:Type}
def allI (p:Nat→α→Bool):List α→Nat→Bool
 | [],_=>true
 | y::l,i=>p i y&&allI p l (i+1)
theorem W2 {body:Nat→α→Unit→Option (Lp Unit δ ρ)} {done:Unit→δ} {p:Nat→α→Bool} {v:ρ}:∀ {l:List α} {i:Nat},(∀ k y,l[k]?=some y→body (i+k) y ()=some (if p (i+k) y then .nx () else .rt v))→AL body done l i ()=some (if allI p l i then .inl (done ()) else .inr v)
 | [],i,_=>rfl
 | y::l,i,h=>by
   have h0:=h 0 y rfl
   rw [Nat.add_zero] at h0
   rw [AL,h0,allI]
   cases p i y with
   | false=>simp [Im]
   | true =>
     have:=W2 (body:=body) (done:=done) (p:=p) (v:=v) (l:=l) (i:=i+1) fun k z hz=>by
       have:=h (k+1) z (by simpa using hz)
       rwa [show i+(k+1)=i+1+k by omega] at this
     simpa [Im] using this
theorem Fy {β:Type} {n:Nat} {x:Option β} (h:n≤9223372036854775807):GW n x=x:=by unfold GW;rw [if_pos h]
theorem G9 {β:Type} {n:Nat} {x:Option β} (h:n≤100000000):Lt n x=x:=by unfold Lt;rw [if_pos h]
end
end AI
namespace AI
open Go
noncomputable def mb (p:Prop):Bool:=@decide p (Classical.propDecidable _)
theorem BG {p:Prop}:mb p=true↔p:=by unfold mb;exact @decide_eq_true_iff p (_)
theorem Dh {p q:Prop} (h:p↔q):mb p=mb q:=by rw [propext h]
noncomputable def AB {β:Type} (p:Prop) (x y:β):β:=@ite β p (Classical.propDecidable _) x y
theorem Ac {β:Type} {p:Prop} {x y:β} (h:p):AB p x y=x:=@if_pos p (_) h _ _ _
theorem Ab {β:Type} {p:Prop} {x y:β} (h:¬ p):AB p x y=y:=@if_neg p (_) h _ _ _
section
variable {β:Type} {x y:β}
theorem acJ (a b:Int):cond (Kt a b) x y=AB (a≤b) x y:=by
 rw [YK]
 by_cases h:a≤b
 · rw [Ac h,decide_eq_true h];rfl
 · rw [Ab h,decide_eq_false h];rfl
theorem Xo (a b:Int):cond (DH a b) x y=AB (a < b) x y:=by
 rw [M5]
 by_cases h:a < b
 · rw [Ac h,decide_eq_true h];rfl
 · rw [Ab h,decide_eq_false h];rfl
theorem HN (a b:Int):cond (Bp a b) x y=AB (a=b) x y:=by
 by_cases h:a=b
 · have:Bp a b=true:=by rw [MU];simpa using h
   rw [Ac h,this];rfl
 · have:Bp a b=false:=by rw [MU];simpa using h
   rw [Ab h,this];rfl
theorem Nc (a b:ByteArray):cond (BC a.data.toList b.data.toList) x y=AB (a=b) x y:=by
 by_cases h:a=b
 · have:BC a.data.toList b.data.toList=true:=by rw [To,h];simp
   rw [Ac h,this];rfl
 · have:BC a.data.toList b.data.toList=false:=by
     rw [To]
     apply beq_false_of_ne
     exact fun e=>h (ByteArray.ext (Array.ext' e))
   rw [Ab h,this];rfl
theorem BH (p:Prop):cond (mb p) x y=AB p x y:=by
 by_cases h:p
 · rw [Ac h,BG.2 h];rfl
 · rw [Ab h]
   have:mb p=false:=by
     cases hm:mb p
     · rfl
     · exact absurd (BG.1 hm) h
   rw [this];rfl
theorem dV (b:Bool):cond b x y=AB (b=true) x y:=by cases b<;>simp [AB]
end
section
variable {p q r:Prop}
theorem Hf:AB p (some true) (some false)=some (mb p):=by
 by_cases h:p
 · rw [Ac h,BG.2 h]
 · rw [Ab h];congr 1;cases hm:mb p;rfl;exact absurd (BG.1 hm) h
theorem tL:true=mb True:=(BG.2 trivial).symm
theorem mbF:false=mb False:=by cases h:mb False;rfl;exact (BG.1 h).elim
theorem lW:AB p (some false) (some true)=some (mb ¬ p):=by
 by_cases h:p
 · rw [Ac h];congr 1;rw [Bool.eq_iff_iff,BG];simp [h]
 · rw [Ab h];congr 1;rw [Bool.eq_iff_iff,BG];simp [h]
theorem F1:AB p (some (mb q)) (some false)=some (mb (p∧q)):=by
 by_cases h:p
 · rw [Ac h];congr 1;rw [Bool.eq_iff_iff,BG,BG];simp [h]
 · rw [Ab h];congr 1;rw [Bool.eq_iff_iff,BG];simp [h]
theorem bP:AB p (some false) (some (mb q))=some (mb (¬ p∧q)):=by
 by_cases h:p
 · rw [Ac h];congr 1;rw [Bool.eq_iff_iff,BG];simp [h]
 · rw [Ab h];congr 1;rw [Bool.eq_iff_iff,BG,BG];simp [h]
theorem afa:AB p (some (mb q)) (some true)=some (mb (p→q)):=by
 by_cases h:p
 · rw [Ac h];congr 1;rw [Bool.eq_iff_iff,BG,BG];simp [h]
 · rw [Ab h];congr 1;rw [Bool.eq_iff_iff,BG];simp [h]
theorem Za:AB p (some true) (some (mb q))=some (mb (p∨q)):=by
 by_cases h:p
 · rw [Ac h];congr 1;rw [Bool.eq_iff_iff,BG];simp [h]
 · rw [Ab h];congr 1;rw [Bool.eq_iff_iff,BG,BG];simp [h]
theorem kB:AB p (some (mb q)) (some (mb r))=some (mb ((p→q)∧(¬ p→r))):=by
 by_cases h:p
 · rw [Ac h];congr 1;rw [Bool.eq_iff_iff,BG,BG];simp [h]
 · rw [Ab h];congr 1;rw [Bool.eq_iff_iff,BG,BG];simp [h]
theorem L2 {β:Type} {x:β}:AB p x x=x:=by
 by_cases h:p
 · exact Ac h
 · exact Ab h
noncomputable def ck {δ ρ:Type} (v:ρ) (p:Prop):Lp Unit δ ρ:=AB p (.nx ()) (.rt v)
variable {δ ρ:Type} {v:ρ}
theorem TN:AB p (some (.nx ())) (some (.rt v))=some (ck (δ:=δ) v p):=by
 unfold ck;by_cases h:p
 · rw [Ac h,Ac h]
 · rw [Ab h,Ab h]
theorem T9:AB p (some (.rt v)) (some (.nx ()))=some (ck (δ:=δ) v ¬ p):=by
 unfold ck;by_cases h:p
 · rw [Ac h,Ab (by simp [h])]
 · rw [Ab h,Ac h]
theorem Xs:AB p (some (ck (δ:=δ) v q)) (some (.rt v))=some (ck v (p∧q)):=by
 unfold ck;by_cases h:p
 · rw [Ac h];simp [h]
 · rw [Ab h,Ab (by simp [h])]
theorem T3:AB p (some (.rt v)) (some (ck (δ:=δ) v q))=some (ck v (¬ p∧q)):=by
 unfold ck;by_cases h:p
 · rw [Ac h,Ab (by simp [h])]
 · rw [Ab h];simp [h]
theorem mX:AB p (some (ck (δ:=δ) v q)) (some (.nx ()))=some (ck v (p→q)):=by
 unfold ck;by_cases h:p
 · rw [Ac h];simp [h]
 · rw [Ab h,Ac (by simp [h])]
theorem wI:AB p (some (.nx ())) (some (ck (δ:=δ) v q))=some (ck v (p∨q)):=by
 unfold ck;by_cases h:p
 · rw [Ac h,Ac (by simp [h])]
 · rw [Ab h];simp [h]
theorem acp:AB p (some (ck (δ:=δ) v q)) (some (ck v r))=some (ck v ((p→q)∧(¬ p→r))):=by
 unfold ck;by_cases h:p
 · rw [Ac h];simp [h]
 · rw [Ab h];simp [h]
theorem ID {α β:Type} {l:List α} {body:Nat→α→Unit→Option (Lp Unit Unit ρ)} {P:Nat→α→Prop} {k:Unit→Option β} {kr:ρ→Option β} (hl:l.length≤9223372036854775807) (hb:∀ i y,l[i]?=some y→body i y ()=some (ck v (P i y))):(GW l.length (AL body (fun _=>()) (l.drop 0) 0 ())).bind (GQ k kr)=AB (∀ i y,l[i]?=some y→P i y) (k ()) (kr v):=by
 rw [Fy hl,List.drop_zero]
 have h1:∀ k y,l[k]?=some y→body (0+k) y ()=some (if mb (P (0+k) y) then .nx () else .rt v):=fun k y hy=>by
   rw [Nat.zero_add,hb k y hy]
   unfold ck
   by_cases h:P k y
   · rw [Ac h,if_pos (BG.2 h)]
   · rw [Ab h,if_neg (fun e=>h (BG.1 e))]
 rw [W2 (p:=fun i y=>mb (P i y)) (v:=v) h1]
 have h2:∀ (l:List α) (i:Nat),allI (fun i y=>mb (P i y)) l i=true↔∀ k y,l[k]?=some y→P (i+k) y:=by
   intro l
   induction l with
   | nil=>intro i;simp [allI]
   | cons a l ih =>
     intro i
     rw [allI,Bool.and_eq_true,BG,ih]
     constructor
     · rintro ⟨h1,h2⟩ k y hk
       cases k with
       | zero=>simp at hk;subst hk;exact h1
       | succ k=>rw [show i+(k+1)=i+1+k by omega];exact h2 k y (by simpa using hk)
     · intro h
       refine ⟨h 0 a rfl,fun k y hk=>?_⟩
       rw [show i+1+k=i+(k+1) by omega]
       exact h (k+1) y (by simpa using hk)
 have h3:=h2 l 0
 simp only [Nat.zero_add] at h3
 by_cases h:∀ i y,l[i]?=some y→P i y
 · rw [Ac h,h3.2 h];rfl
 · rw [Ab h]
   have:allI (fun i y=>mb (P i y)) l 0=false:=by
     cases ha:allI (fun i y=>mb (P i y)) l 0
     · rfl
     · exact absurd (h3.1 ha) h
   rw [this];rfl
end
end AI
namespace AI
open Go
def Sp {β:Type} (o:Option β) (Q:β→Prop):Prop:=∃ r,o=some r∧Q r
section
variable {α β γ δ ρ κ:Type} {Q:β→Prop}
theorem Bm {r:β}:Sp (some r) Q=Q r:=propext ⟨fun ⟨_,h,k⟩=>by cases h;exact k,fun h=>⟨_,rfl,h⟩⟩
theorem MD {o:Option κ} {k:κ→Option β}:Sp (o.bind k) Q=Sp o (fun y=>Sp (k y) Q):=propext ⟨fun ⟨r,h,hq⟩=>by
 obtain ⟨y,h1,h2⟩:=Vr h
 exact ⟨y,h1,r,h2,hq⟩,fun ⟨y,h1,r,h2,hq⟩=>⟨r,by rw [h1];exact h2,hq⟩⟩
theorem Sp.mono {Q':β→Prop} {o:Option β} (h:Sp o Q) (k:∀ r,Q r→Q' r):Sp o Q':=h.elim fun r h=>⟨r,h.1,k r h.2⟩
theorem K2 {o:Option β} {r:β}:(o=some r)=Sp o (fun x=>x=r):=propext ⟨fun h=>⟨r,h,rfl⟩,fun ⟨_,h,k⟩=>by rw [h,k]⟩
theorem GF {p:Prop} {x y:Option β}:Sp (AB p x y) Q=((p→Sp x Q)∧(¬ p→Sp y Q)):=propext (by
 by_cases h:p
 · rw [Ac h];exact ⟨fun a=>⟨fun _=>a,fun n=>absurd h n⟩,fun a=>a.1 h⟩
 · rw [Ab h];exact ⟨fun a=>⟨fun n=>absurd n h,fun _=>a⟩,fun a=>a.2 h⟩)
theorem Fw (a b:Int):Kt a b=mb (a≤b):=by rw [YK,Bool.eq_iff_iff,BG,decide_eq_true_iff]
theorem Di (a b:Int):DH a b=mb (a < b):=by rw [M5,Bool.eq_iff_iff,BG,decide_eq_true_iff]
theorem BV (a b:Int):Bp a b=mb (a=b):=by rw [MU,Bool.eq_iff_iff,BG,beq_iff_eq]
theorem B8 (a b:ByteArray):BC a.data.toList b.data.toList=mb (a=b):=by
 rw [To,Bool.eq_iff_iff,BG,beq_iff_eq]
 exact ⟨fun h=>ByteArray.ext (Array.ext' h),fun h=>by rw [h]⟩
theorem fR {p:Prop}:(!mb p)=mb ¬ p:=by
 rw [Bool.eq_iff_iff,BG,Bool.not_eq_true',← Bool.not_eq_true,BG]
theorem Eb {p:Prop}:(mb p=true)=p:=propext BG
theorem NJ {p:Prop}:(mb p=false)=¬ p:=by rw [← Bool.not_eq_true,Eb]
theorem Pf {p:Prop}:(true=mb p)=p:=by rw [@eq_comm _ true,Eb]
theorem Cj {p:Prop}:(false=mb p)=¬ p:=by rw [@eq_comm _ false,NJ]
theorem Nu {p q:Prop}:(mb p=mb q)=(p↔q):=propext (by rw [Bool.eq_iff_iff,BG,BG])
theorem Lh {p q:Prop} (h:p↔q):some (mb p)=some (mb q):=by rw [Dh h]
theorem Hq {p:Prop} (h:¬ p):some false=some (mb p):=congrArg some (by rw [Cj];exact h)
theorem FA {l:List α} {body:Nat→α→γ→Option (Lp γ δ ρ)} {done:γ→δ} {k:δ→Option β} {kr:ρ→Option β} {x0:γ} (I:Nat→γ→Prop) (hl:l.length≤9223372036854775807) (h0:I 0 x0)
   (hb:∀ i y x,l[i]?=some y→I i x→Sp (body i y x) (RQ (I (i+1)) (fun d=>Sp (k d) Q) (fun v=>Sp (kr v) Q)))
   (hz:∀ x,I l.length x→Sp (k (done x)) Q):Sp ((GW l.length (AL body done (l.drop 0) 0 x0)).bind (GQ k kr)) Q:=by
 rw [Fy hl,List.drop_zero]
 have key:∀ (m:List α) (i:Nat) (x:γ),l.drop i=m→i≤l.length→I i x→Sp ((AL body done m i x).bind (GQ k kr)) Q:=by
   intro m
   induction m with
   | nil =>
     intro i x hd hle hi
     have h1:=List.drop_eq_nil_iff.1 hd
     have:i=l.length:=by omega
     subst this
     exact hz x hi
   | cons y m ih =>
     intro i x hd hle hi
     have hlt:i < l.length:=by
       rcases Nat.lt_or_ge i l.length with h1 | h1
       · exact h1
       · rw [List.drop_eq_nil_of_le h1] at hd;cases hd
     have hy:l[i]?=some y:=by rw [← List.head?_drop,hd];rfl
     have hd2:l.drop (i+1)=m:=by rw [← List.tail_drop,hd];rfl
     obtain ⟨r,hr,hq⟩:=hb i y x hy hi
     rw [AL,hr]
     cases r with
     | nx x'=>exact ih (i+1) x' hd2 hlt hq
     | ex d=>exact hq
     | rt v=>exact hq
 exact key l 0 x0 rfl (Nat.zero_le _) h0
theorem F0 {Qn:γ→Prop} {Qx:δ→Prop} {Qr:ρ→Prop} {x:γ}:RQ Qn Qx Qr (.nx x)=Qn x:=rfl
theorem abP {Qn:γ→Prop} {Qx:δ→Prop} {Qr:ρ→Prop} {x:δ}:RQ Qn Qx Qr (.ex x)=Qx x:=rfl
theorem U6 {Qn:γ→Prop} {Qx:δ→Prop} {Qr:ρ→Prop} {x:ρ}:RQ Qn Qx Qr (.rt x)=Qr x:=rfl
theorem uW {body:γ→Option (Lp γ δ ρ)} {k:δ→Option β} {kr:ρ→Option β} {x0:γ} (I:γ→Prop) (m:γ→Nat) (h0:I x0)
   (hb:∀ x,I x→Sp (body x) (RQ (fun x'=>I x'∧m x' < m x) (fun d=>Sp (k d) Q) (fun v=>Sp (kr v) Q))):Sp ((YH body x0).bind (GQ k kr)) Q:=by
 have key:∀ (n:Nat) (x:γ),I x→m x < n→∃ r,Nx body n x=some r∧Sp (GQ k kr r) Q:=by
   intro n
   induction n with
   | zero=>intro x _ h;omega
   | succ n ih =>
     intro x hi hm
     obtain ⟨r,hr,hq⟩:=hb x hi
     rw [Nx,hr]
     cases r with
     | nx x'=>exact ih x' hq.1 (by have:=hq.2;omega)
     | ex d=>exact ⟨_,rfl,hq⟩
     | rt v=>exact ⟨_,rfl,hq⟩
 obtain ⟨r,hr,hq⟩:=key (m x0+1) x0 h0 (by omega)
 rw [nJ hr]
 exact hq
theorem vI {n:Nat} {body:Nat→γ→Option (Lp γ δ ρ)} {done:γ→δ} {k:δ→Option β} {kr:ρ→Option β} {x0:γ} (I:Nat→γ→Prop) (hl:n≤9223372036854775807) (h0:I 0 x0)
   (hb:∀ i x,i < n→I i x→Sp (body i x) (RQ (I (i+1)) (fun d=>Sp (k d) Q) (fun v=>Sp (kr v) Q)))
   (hz:∀ x,I n x→Sp (k (done x)) Q):Sp ((GW n (Vz body done n 0 x0)).bind (GQ k kr)) Q:=by
 rw [Fy hl]
 have key:∀ (d i:Nat) (x:γ),i+d=n→I i x→Sp ((Vz body done d i x).bind (GQ k kr)) Q:=by
   intro d
   induction d with
   | zero =>
     intro i x hd hi
     have:i=n:=by omega
     subst this
     exact hz x hi
   | succ d ih =>
     intro i x hd hi
     obtain ⟨r,hr,hq⟩:=hb i x (by omega) hi
     rw [Vz,hr]
     cases r with
     | nx x'=>exact ih (i+1) x' (by omega) hq
     | ex d=>exact hq
     | rt v=>exact hq
 exact key n 0 x0 (by omega) h0
end
theorem Zb {α γ δ ρ:Type} {l:List α} {body body':Nat→α→γ→Option (Lp γ δ ρ)} {done:γ→δ} {x0:γ} (h:∀ i y x,l[i]?=some y→body i y x=body' i y x):AL body done (l.drop 0) 0 x0=AL body' done (l.drop 0) 0 x0:=by
 have key:∀ (m:List α) (i:Nat) (x:γ),l.drop i=m→AL body done m i x=AL body' done m i x:=by
   intro m
   induction m with
   | nil=>intro i x _;rfl
   | cons y m ih =>
     intro i x hd
     have hy:l[i]?=some y:=by rw [← List.head?_drop,hd];rfl
     have hd2:l.drop (i+1)=m:=by rw [← List.tail_drop,hd];rfl
     rw [AL,AL,h i y x hy]
     congr 1
     funext r
     cases r with
     | nx x'=>exact ih (i+1) x' hd2
     | ex d=>rfl
     | rt v=>rfl
 rw [List.drop_zero]
 exact key l 0 x0 rfl
theorem PE {n:Int} (h:-9223372036854775808≤n∧n≤9223372036854775807):Nz .i64 n=n:=by
 rw [P0]
 exact IntWalk.i64_in n (by omega)
theorem Ce {a b:Int} (h:-9223372036854775808≤a+b∧a+b≤9223372036854775807):BW a b=a+b:=by
 unfold BW
 rw [Vy,PE h]
theorem MB {a b:Int} (h:-9223372036854775808≤a - b∧a - b≤9223372036854775807):Ua a b=a - b:=by
 unfold Ua
 rw [Zd,PE h]
theorem RY {a b:Int} (h:-9223372036854775808≤a*b∧a*b≤9223372036854775807):Ub a b=a*b:=by
 unfold Ub
 rw [PE h]
end AI
namespace AI
open Go Go.RowKit
def OW (n:Nat) (z:Int):Option Nat:=if 0≤z∧z < ((n:Nat):Int) then some z.toNat else none
def p6 {β:Type} (n:Nat) (x:Option β):Option β:=if n≤16777216 then x else none
theorem abx {β:Type} {n:Nat} {x:Option β} {r:β} {X:Prop} (h1:n≤16777216→x=some r→X):p6 n x=some r→X:=fun h=>by
 unfold p6 at h
 split at h
 · rename_i h2;exact h1 h2 h
 · cases h
section
variable {P:Program} {G:A8} {α:Type} {f:α→List AV} {C:List α→List AV} {k:Nat}
theorem Kp.ixm (_:Kp f C k) {t elem:TypeId} (hu:P.underlying t=some (.slice elem)) (hs:(P.info? elem).map (·.size)=some k) {id n i:Nat} (h:i < n):B2 P t (.msl id 0 n) (.sc (.int .i64 ((i:Nat):Int)))=some (.ptr id (0+i*k)):=by
 cases hi:P.info? elem with
 | none=>rw [hi] at hs;cases hs
 | some e =>
   rw [hi] at hs
   have hk:e.size=k:=by simpa using hs
   have hn:Np (.sc (.int .i64 ((i:Nat):Int)))=some i:=by unfold Np;simp
   unfold B2
   rw [hu,hn]
   simp only [hi]
   rw [if_pos h,hk]
theorem Kp.adF (hl:Kp f C k) {t elem:TypeId} (hu:P.underlying t=some (.slice elem)) (hs:(P.info? elem).map (·.size)=some k) {id n i:Nat} {z:Int} (h:OW n z=some i):B2 P t (.msl id 0 n) (.sc (.int .i64 z))=some (.ptr id (0+i*k)):=by
 unfold OW at h
 split at h
 · rename_i hz
   cases h
   have:=hl.ixm (id:=id) hu hs (show z.toNat < n by omega)
   rwa [Int.toNat_of_nonneg hz.1] at this
 · cases h
theorem Kp.ld1 (h:Kp f C 1) {e:TypeId} (hd:(P.underlying e).map Sk=some false) (hs:(P.info? e).map (·.size)=some 1) {l:List α} {i:Nat} {x:α} {v:AV} (hx:l[i]?=some x) (hv:f x=[v]):Cd.ok P G (.ldB (.cells (C l)) e (0+i*1) v):=by
 intro s id hg
 simp only [Ie,hg]
 unfold apart
 obtain ⟨d,hu,hd⟩:=Option.map_eq_some_iff.1 hd
 rw [hu]
 cases hi:P.info? e with
 | none=>rw [hi] at hs;cases hs
 | some j =>
   simp only
   rw [hd,if_neg (by simp),h.eq,Nat.zero_add,← List.head?_drop,UN h.len hx,hv]
   rfl
theorem cY {l:List α} {i:Nat} (y:α) (h:i < l.length):l.set i y=l.take i++y::l.drop (i+1):=by
 rw [List.set_eq_take_append_cons_drop,if_pos h]
theorem Kp.st (h:Kp f C k) {e:TypeId} (hs:(P.info? e).map (·.size)=some k) {l:List α} {i:Nat} {x:α} (hx:l[i]?=some x) (y:α) {v:AV} (hv:cellsOf v=f y) (h1:(f y).all one=true):Cd.ok P G (.stB (.cells (C l)) e (0+i*k) v (.cells (C (l.set i y)))):=by
 intro s id hg
 have hlt:=(List.getElem?_eq_some_iff.1 hx).1
 have hle:i*k+k≤l.length*k:=by have:=Nat.mul_le_mul_right k hlt;rw [Nat.succ_mul] at this;exact this
 cases hi:P.info? e with
 | none=>rw [hi] at hs;cases hs
 | some j =>
   rw [hi] at hs
   have hk:j.size=k:=by simpa using hs
   unfold JE
   rw [hi]
   simp only [hg]
   rw [hv,hk,h.eq,Nat.zero_add,if_pos ⟨h.len y,h1,by rw [J7 h.len];exact hle⟩,h.eq]
   congr 3
   unfold Hk
   rw [h.len y,NC h.len,show i*k+k=(i+1)*k by rw [Nat.succ_mul],NL h.len,cY y hlt,Rg,HM,List.append_assoc]
theorem bL {β:Type} (zs:List β) (d:β) (hz:zs≠[]):∀ n:Nat,((List.range (n*zs.length)).map fun i=>zs.getD (i % zs.length) d)=(List.replicate n zs).flatten:=by
 have hp:0 < zs.length:=List.length_pos_iff.2 hz
 intro n
 induction n with
 | zero=>simp
 | succ n ih =>
   rw [List.replicate_succ',List.flatten_append,← ih,Nat.succ_mul,List.range_add,List.map_append]
   congr 1
   simp only [List.flatten_cons,List.flatten_nil,List.append_nil]
   apply List.ext_getElem
   · simp
   · intro i h1 h2
     simp only [List.getElem_map,List.getElem_range]
     have:(n*zs.length+i) % zs.length=i:=by
       rw [Nat.add_comm,Nat.add_mul_mod_self_right,Nat.mod_eq_of_lt h2]
     rw [this,List.getD_eq_getElem?_getD,List.getElem?_eq_getElem h2];rfl
theorem Kp.made (h:Kp f C k) {t elem:TypeId} (hu:P.underlying t=some (.slice elem)) {z:α} (hi:(P.info? elem).map (fun i=>(i.size,decide (i.bytes≤16777216),i.zero.bind fun z=>Xn z.cells.toList))=some (k,true,some (f z))) (hk:k≠0) {n:Nat} (hn:n≤16777216):Cd.ok P G (.mkB t (.sc (.int .i64 ((n:Nat):Int))) (.sc (.int .i64 ((n:Nat):Int))) n (.cells (C (List.replicate n z)))):=by
 intro s
 cases hq:P.info? elem with
 | none=>rw [hq] at hi;cases hi
 | some e =>
   rw [hq] at hi
   simp only [Option.map_some,Option.some.injEq,Prod.mk.injEq,decide_eq_true_eq] at hi
   obtain ⟨h1,h2,h3⟩:=hi
   obtain ⟨z0,hz0,hz1⟩:=Option.bind_eq_some_iff.1 h3
   unfold Xn at hz1
   obtain ⟨zs,hzs,hzu⟩:=Option.map_eq_some_iff.1 hz1
   have ha:Np (.sc (.int .i64 ((n:Nat):Int)))=some n:=by unfold Np;simp
   have hlen:zs.length=k:=by rw [← h.len z,← hzu,List.length_map]
   have hne:zs≠[]:=fun e=>hk (by rw [← hlen,e];rfl)
   refine ⟨.cells ((List.replicate n zs).flatten),?_,fun cx w o ho=>?_⟩
   · unfold GD
     rw [hu]
     simp only [hq,ha,hz0,hzs]
     rw [if_pos ⟨trivial,hn,Nat.le_trans (Nat.mul_le_mul hn h2) (by decide),by cases hf:zs with
       | nil=>exact absurd hf hne
       | cons a l=>rfl⟩]
     congr 4
     rw [h1,← hlen,bL _ _ hne]
   · have e:C (List.replicate n z)=((List.replicate n zs).flatten).map VV:=by
       rw [h.eq]
       unfold rows
       rw [List.flatMap_def,List.map_replicate,← hzu,List.map_flatten,List.map_replicate]
     rw [e]
     cases ho with
     | cellsX ext h1=>exact .cellsX ext (SZ h1)
end
end AI
namespace AI
open Go Go.RowKit
section
variable {P:Program} {G:A8}
theorem Ta {f:FuncId} {fn:Func} {c:Code} {args:List AV} {s s0 s2:AS} {m:Nat} {v:AV} (hf:P.funcs[f]?=some fn) (hb:fn.body=some c) (h:W P G (XS P G) H0 c (args++List.replicate (fn.ntmps - args.length) (.sc undef)) s (OH P fn m (QM G s0 (.ret v) s2))):WC P G (XS P G) H0 f args s (fun r s'=>QM G s0 (.ret v) s2 r (s'.cut m)):=by
 obtain ⟨e,fr1,s1,h1,h2⟩:=h
 cases e with
 | normal=>obtain ⟨v,h3,h4⟩:=h2;exact ⟨_,_,.body hf hb h1 (.inl rfl) h3 (.inr rfl),h4⟩
 | ret=>obtain ⟨v,h3,h4⟩:=h2;exact ⟨_,_,.body hf hb h1 (.inr rfl) h3 (.inr rfl),h4⟩
 | pan v=>obtain ⟨a,ha,_⟩:=h2;cases ha
 | exit id=>exact h2.elim
theorem YE (hm:P.follows .mixedOrders=true) {f:FuncId} {args:List AV} {s0 s2:AS} {v:AV} {m:Nat} (h:WC P G (XS P G) H0 f args s0 (fun r s'=>QM G s0 (.ret v) s2 r (s'.cut m))):Sound P G (.call f args s0 (.ret v) s2):=by
 obtain ⟨r,s',hj,a,rfl,hf⟩:=h
 have hS:=sound (X8 hm) hj
 intro cx w vs hs hargs
 refine (hS cx w vs hs hargs).mono ?_
 rintro e w' ⟨c',hx,hs',u,rfl,hu⟩
 obtain ⟨c2,x2,st2,f2⟩:=hf cx w c' w' [u] hx hs (hs'.cut m) (.cons hu .nil)
 cases f2 with
 | cons f3 _=>exact ⟨c2,x2,st2,u,rfl,f3⟩
theorem rF (hG:∀ g cs,G g=some cs→Bu cs=true) {s s' s2:AS} {fr' fr2:List AV} (hn:s.nx≤s2.nx) (hr:s.nr≤s2.nr) (hn2:s2.nx≤s'.nx) (hr2:s2.nr≤s'.nr)
   (hd:Hm s2.h s2.nx) (hbox:∀ id b,look id s2.h=some b→∃ b',look id s'.h=some b'∧Mh s2.nx s2.nr b' b) (hF:∀ r n,C8 r s2.F=some n→C8 r s'.F=some n∧r < s2.nr)
   (hf:H3 s2.nx s2.nr fr' fr2):aO G s fr' s' fr2 s2:=by
 intro cx w c' w' vs hx hs hs' hfr
 have hl1:=hs.len
 have hl2:=hs'.len
 have hl3:=hs.rlen
 have hl4:=hs'.rlen
 have hphi:cx.Cl <+: c'.Cl.take s2.nx:=by
   obtain ⟨t,ht⟩:=hx.Cl
   rw [← ht,List.take_append,List.take_of_length_le (by omega)]
   exact List.prefix_append _ _
 have hrl:(c'.rows.take s2.nr).length=s2.nr:=by rw [List.length_take];omega
 refine ⟨c'.upto s2.nx s2.nr,⟨hphi,?_,fun r x hr' h=>hx.rows r x hr' (DT h).1,fun g i v hv=>Py (hx.vis g i v hv),hx.below,hx.base,hx.bad,fun g hg=>hx.pnew g (List.mem_of_mem_take hg),fun r g n cap sz h=>hx.rnew r g n cap sz (DT h).1,hx.keep⟩,?_,hf _ _ _ hfr⟩
 · show cx.rows.length≤(c'.rows.take s2.nr).length
   omega
 · refine ⟨?_,hd,fun i j g h1 h2=>hs'.nodup i j g (DT h1).1 (DT h2).1,fun g hg=>hs'.low g (List.mem_of_mem_take hg),fun id g b h1 h2=>?_,hrl.symm,fun r g n cap sz h=>?_,fun r n h=>?_,fun g hg=>hs'.plow g (List.mem_of_mem_take hg),hs'.blow,fun r r' g n cap sz n' cap' sz' h h'=>hs'.rdist r r' g n cap sz n' cap' sz' (DT h).1 (DT h').1,fun g cs hg=>(hs'.glob g cs hg).upto (Aj _ _ (hG g cs hg)),hs'.bsz⟩
   · show s2.nx=(c'.Cl.take s2.nx).length
     rw [List.length_take];omega
   · obtain ⟨b',h3,h4⟩:=hbox id b h2
     obtain ⟨o,ho,hb⟩:=hs'.box id g b' (DT h1).1 h3
     exact ⟨o,ho,h4 _ _ _ hb⟩
   · obtain ⟨a1,a2,a3,a4⟩:=hs'.row r g n cap sz (DT h).1
     exact ⟨a1,a2,fun hm=>a3 (List.mem_of_mem_take hm),a4⟩
   · obtain ⟨h1,h2⟩:=hF r n h
     rcases hs'.rfree r n h1 with ⟨h3,h4⟩ | ⟨g,cap,sz,h3⟩
     · exact .inl ⟨ME h3 h2,h4⟩
     · exact .inr ⟨g,cap,sz,ME h3 h2⟩
theorem sC (hG:∀ g cs,G g=some cs→Bu cs=true) {live:List Nat} {n m:Nat} {s0:AS} {fr':List AV} {s':AS} {fps:List (FP n m)} {fbs:List (FB n m)} {fr2:List AV} {s2:AS} (hn:s0.nx≤n) (hr:s0.nr≤m) (hn2:n≤s'.nx) (hr2:m≤s'.nr) (h:yX live n m fr' s' (Va fps) (tY fbs)=some (fr2,s2,XI fps,fbA fbs)):aO G s0 fr' s' fr2 s2:=by
 unfold yX at h
 split at h
 · rename_i f1 as hm
   split at h
   · rename_i h1 cas hb
     simp only [Option.some.injEq,Prod.mk.injEq] at h
     obtain ⟨rfl,rfl,rfl,rfl⟩:=h
     intro cx w c' w' vs hx hs hs' hfr
     obtain ⟨hd,hl⟩:=n4 hb
     refine rF (s:=s0) (s2:=⟨h1,n,Ri m s'.F,m⟩) hG hn hr hn2 hr2 (hd _ (W8 hs'.desc)) (fun id b hb=>?_) (fun r n hr=>Ws hr) (n6 hm) cx w c' w' vs hx hs hs' hfr
     obtain ⟨b',h3,h4⟩:=hl id b hb
     exact ⟨b',O0 hs'.desc h3,h4⟩
   · cases h
 · cases h
def abu (n:Nat):List Nat→Bool
 | []=>false
 | k::l=>Nat.beq n k||abu n l
def TD (ks:List Nat):List (Nat×A5)→List (Nat×A5)
 | []=>[]
 | e::l=>match abu e.1 ks with
   | true=>e::TD ks l
   | false=>TD ks l
theorem Pp {ks:List Nat}:∀ {l:List (Nat×A5)} {n:Nat},Hm l n→Hm (TD ks l) n
 | [],_,_=>trivial
 | e::l,n,h=>by
   simp only [TD]
   split
   · exact ⟨h.1,Pp h.2⟩
   · exact (Pp h.2).mono (Nat.le_of_lt h.1)
theorem Po {ks:List Nat} {id:Nat} {b:A5}:∀ {l:List (Nat×A5)} {n:Nat},Hm l n→look id (TD ks l)=some b→look id l=some b
 | [],_,_,h=>h
 | e::l,n,hd,h=>by
   simp only [TD] at h
   split at h
   · simp only [look] at h ⊢
     split at h
     · exact h
     · exact Po hd.2 h
   · have h1:=Po hd.2 h
     have h2:=RT hd.2 h1
     simp only [look]
     split
     · rename_i hb;have:=beq_true hb;omega
     · exact h1
def AS.pick (s:AS) (ks:List Nat):AS:=⟨TD ks s.h,s.nx,s.F,s.nr⟩
theorem St.pick {c:Cx} {w:World} {s:AS} (h:St G c w s) (ks:List Nat):St G c w (s.pick ks) :=
 ⟨h.len,Pp h.desc,h.nodup,h.low,fun id g b h1 h2=>h.box id g b h1 (Po h.desc h2),h.rlen,h.row,h.rfree,h.plow,h.blow,h.rdist,h.glob,h.bsz⟩
def sZ (ks:List Nat) (live:List Nat) (n m0:Nat) (P:Program) (fn:Func) (m:Nat) (bs:List AV) (cs:List A5):HR→Option (List Cd×List AV×AS×List AV×List A5)
 | some (.fin .ret,[],cd,fr,s)=>(match Gl P s fn fr with
   | some v=>(match Nat.ble n s.nx&&Nat.ble m0 s.nr with
     | true=>(match yX live n m0 [v] ((s.cut m).pick ks) bs cs with
       | some (fr2,s2,as,cas)=>some (cd,fr2,s2,as,cas)
       | none=>none)
     | false=>none)
   | none=>none)
 | _=>none
theorem V7 (hG:∀ g cs,G g=some cs→Bu cs=true) {r:HR} {X:Prop} {s0:AS} {Q:AX→List AV→AS→Prop} (fn:Func) (m:Nat) {l:List (PC P G)} (ks:List Nat) (live:List Nat) {n m0:Nat} (fps:List (FP n m0)) (fbs:List (FB n m0)) (v:AV) (s2:AS) (R:Tz P G l Q r X) (hn:s0.nx≤n) (hr:s0.nr≤m0)
   (h:sZ ks live n m0 P fn m (Va fps) (tY fbs) r=some (dZ l,[v],s2,XI fps,fbA fbs)) (k:Iu P G fn m s0 Q v s2):X:=by
 unfold sZ at h
 split at h
 · split at h
   · rename_i v' hv
     split at h
     · rename_i hle
       simp only [Bool.and_eq_true] at hle
       split at h
       · rename_i h1
         simp only [Option.some.injEq,Prod.mk.injEq] at h
         obtain ⟨rfl,rfl,rfl,rfl,rfl⟩:=h
         exact R _ _ _ _ rfl (Nv l) (k _ _ (fun cx w c' w' vs hx hs hs' hf=>sC (s':=(AS.cut _ m).pick ks) hG hn hr (Nat.le_of_ble_eq_true hle.1) (Nat.le_of_ble_eq_true hle.2) h1 cx w c' w' vs hx hs (hs'.pick ks) hf) _ _ hv rfl)
       · cases h
     · cases h
   · cases h
 · cases h
inductive tE (dn dr nx nr:Nat):List (Nat×A5)→List (Nat×A5)→Prop where
 | nil:tE dn dr nx nr [] []
 | cons {i:Nat} {b b':A5} {l m:List (Nat×A5)} (h:ZB dn dr (fun i=>nx+i) (fun r=>nr+r) b b') (t:tE dn dr nx nr l m):tE dn dr nx nr ((i,b)::l) ((nx+i,b')::m)
theorem tE.desc {dn dr nx nr:Nat} {l m h:List (Nat×A5)} (hr:tE dn dr nx nr l m) (hh:Hm h nx):∀ {n:Nat},Hm l n→Hm (m++h) (nx+n):=by
 induction hr with
 | nil=>intro n _;exact hh.mono (Nat.le_add_right _ _)
 | cons h1 t ih=>intro n hd;exact ⟨Nat.add_lt_add_left hd.1 _,ih hd.2⟩
theorem tE.look {dn dr nx nr id:Nat} {b:A5} {l m h:List (Nat×A5)} (hr:tE dn dr nx nr l m) (hb:AI.look id (m++h)=some b):(∃ i b0,id=nx+i∧AI.look i l=some b0∧ZB dn dr (fun i=>nx+i) (fun r=>nr+r) b0 b)∨AI.look id h=some b:=by
 induction hr with
 | nil=>exact .inr hb
 | @cons i b0 b1 l m h1 t ih =>
   simp only [List.cons_append,AI.look] at hb
   split at hb
   · rename_i he
     cases hb
     refine .inl ⟨i,b0,(beq_true he).symm,?_,h1⟩
     simp only [AI.look]
     rw [Nat.beq_refl]
   · rename_i he
     have hne:=beq_false he
     rcases ih hb with ⟨i',b',e,h2,h3⟩ | h2
     · refine .inl ⟨i',b',e,?_,h3⟩
       simp only [AI.look]
       split
       · rename_i h4;have:=beq_true h4;omega
       · exact h2
     · exact .inr h2
theorem bJ {nr r n:Nat} {F:List (Nat×Nat)}:∀ {F2:List (Nat×Nat)},C8 r (F2.map (fun p=>(nr+p.1,p.2))++F)=some n→(∃ q,r=nr+q∧C8 q F2=some n)∨C8 r F=some n:=by
 intro F2
 induction F2 with
 | nil=>exact fun h=>.inr h
 | cons x l ih =>
   intro h
   simp only [List.map_cons,List.cons_append,C8] at h
   split at h
   · rename_i he
     cases h
     refine .inl ⟨x.1,(beq_true he).symm,?_⟩
     simp only [C8]
     rw [Nat.beq_refl]
   · rename_i he
     have hne:=beq_false he
     rcases ih h with ⟨q,e,h2⟩ | h2
     · refine .inl ⟨q,e,?_⟩
       simp only [C8]
       split
       · rename_i h4;have:=beq_true h4;omega
       · exact h2
     · exact .inr h2
theorem Yr (hG:∀ g cs,G g=some cs→Bu cs=true) {f:FuncId} {args:List AV} {v v':AV} {h2 h3:List (Nat×A5)} {dn dr nx nr:Nat} {F2:List (Nat×Nat)} (h:Sound P G (.call f args ⟨[],0,[],0⟩ (.ret v) ⟨h2,dn,F2,dr⟩)) (hp:Bu args=true)
   (hv:Rn dn dr (fun i=>nx+i) (fun r=>nr+r) v v') (hb:tE dn dr nx nr h2 h3):Cd.ok P G (.callN f args nx nr v' h3 dn (F2.map fun p=>(nr+p.1,p.2)) dr):=by
 intro s hnx hnr cx w vs hs ha
 subst hnx hnr
 have hlp:=hs.len
 have hlr:=hs.rlen
 have hvis:∀ g i x,Kb cx w g i x→Kb ⟨w.heap.size,[],[],cx.T1⟩ w g i x:=by
   intro g i x hx
   refine ⟨hx.1,fun hsh=>?_,hx.2.2⟩
   rcases hsh with hsh | ⟨r,n,cap,sz,hr,_⟩ | hsh
   · cases hsh
   · simp at hr
   · exact hx.2.1 hsh
 have hst:St G ⟨w.heap.size,[],[],cx.T1⟩ w ⟨[],0,[],0⟩ :=
   ⟨rfl,trivial,(fun i j g h1=>by simp at h1),(fun g hg=>by cases hg),(fun id g b h1=>by simp at h1),rfl,(fun r g n cap sz hr=>by simp at hr),(fun r n hr=>by cases hr),(fun g hg=>by cases hg),(fun g i hb=>hs.QA hb),(fun r r' g n cap sz n' cap' sz' hr=>by simp at hr),(fun g cs hg=>Bb.plain hvis (hG g cs hg) (hs.glob g cs hg)),Nat.le_refl _⟩
 refine (h _ w vs hst (Cz.plain hvis hp ha)).mono ?_
 rintro e w' ⟨c',hx,hs',u,rfl,hu⟩
 have hbel:=hx.below
 have hchg:Xu w w' (fun _=>False):=⟨hbel.os,hbel.tape,hbel.output,hbel.size,fun k hk _=>hbel.block k hk⟩
 have hpn:∀ g,some g∈c'.Cl→w.heap.size≤g:=fun g hg=>(hx.pnew g hg).resolve_left (by simp)
 have hrn:∀ (r:Nat) g n cap sz,c'.rows[r]?=some (.blk g n cap sz)→w.heap.size≤g:=fun r g n cap sz hg=>(hx.rnew r g n cap sz hg).resolve_left (by rintro ⟨_,_,_,_,hh⟩;simp at hh)
 have hl2:dn=c'.Cl.length:=hs'.len
 have hr2:dr=c'.rows.length:=hs'.rlen
 let c1:Cx:=⟨cx.base,cx.Cl++c'.Cl,cx.rows++c'.rows,cx.bad⟩
 have hpu:∀ (i:Nat) g,c'.Cl[i]?=some (some g)→c1.Cl[s.nx+i]?=some (some g):=fun i g hg=>by
   show (cx.Cl++c'.Cl)[s.nx+i]?=_
   rw [List.getElem?_append_right (by omega),show s.nx+i - cx.Cl.length=i by omega];exact hg
 have hru:∀ (r:Nat) x,c'.rows[r]?=some x→c1.rows[s.nr+r]?=some x:=fun r x hg=>by
   show (cx.rows++c'.rows)[s.nr+r]?=_
   rw [List.getElem?_append_right (by omega),show s.nr+r - cx.rows.length=r by omega];exact hg
 have hpc:∀ (i:Nat) g,c1.Cl[i]?=some (some g)→(i < s.nx∧cx.Cl[i]?=some (some g))∨∃ k,i=s.nx+k∧c'.Cl[k]?=some (some g):=fun i g hg=>by
   have hg:(cx.Cl++c'.Cl)[i]?=some (some g):=hg
   by_cases hi:i < cx.Cl.length
   · rw [List.getElem?_append_left hi] at hg;exact .inl ⟨by omega,hg⟩
   · rw [List.getElem?_append_right (by omega)] at hg;exact .inr ⟨i - cx.Cl.length,by omega,hg⟩
 have hrc:∀ (i:Nat) x,c1.rows[i]?=some x→(i < s.nr∧cx.rows[i]?=some x)∨∃ k,i=s.nr+k∧c'.rows[k]?=some x:=fun i x hg=>by
   have hg:(cx.rows++c'.rows)[i]?=some x:=hg
   by_cases hi:i < cx.rows.length
   · rw [List.getElem?_append_left hi] at hg;exact .inl ⟨by omega,hg⟩
   · rw [List.getElem?_append_right (by omega)] at hg;exact .inr ⟨i - cx.rows.length,by omega,hg⟩
 have hmc:∀ g,some g∈c1.Cl→some g∈cx.Cl∨some g∈c'.Cl:=fun g hg=>List.mem_append.1 hg
 have hbad:∀ g i,cx.T1 g i→c'.T1 g i:=fun g i hh=>.inr (.inr (by rw [hx.bad];exact hh))
 have hvis':∀ g i x,Kb c' w' g i x→Kb c1 w' g i x:=by
   intro g i x hvv
   refine ⟨hvv.1,fun hsh=>hvv.2.1 ?_,hvv.2.2⟩
   rcases hsh with hsh | ⟨q,n,cap,sz,hq,h1,h2⟩ | hsh
   · rcases hmc g hsh with hm | hm
     · exact hbad _ _ (.inl hm)
     · exact .inl hm
   · rcases hrc q _ hq with ⟨_,h3⟩ | ⟨k,_,h3⟩
     · exact hbad _ _ (.inr (.inl ⟨q,n,cap,sz,h3,h1,h2⟩))
     · exact .inr (.inl ⟨k,n,cap,sz,h3,h1,h2⟩)
   · exact hbad _ _ (.inr (.inr hsh))
 have ext:Ext cx w c1 w':=by
   refine ⟨List.prefix_append _ _,by simp [c1],fun q y hq hy=>?_,fun g i x hv=>hvis' g i x (hx.vis g i x (hvis g i x hv)),hchg.below hs.bsz (fun _ hf=>hf.elim),rfl,rfl,fun g hg=>?_,fun q g n cap sz hq=>?_,fun q hq hp hr=>hchg.block q hq (fun hf=>hf)⟩
   · rcases hrc q y hy with ⟨_,h3⟩ | ⟨k,h3,_⟩
     · exact ⟨y,h3,JH.refl y⟩
     · omega
   · rcases hmc g hg with hm | hm
     · exact .inl hm
     · exact .inr (hpn g hm)
   · rcases hrc q _ hq with ⟨_,h3⟩ | ⟨k,_,h3⟩
     · exact .inl ⟨_,_,_,_,h3⟩
     · exact .inr (hrn _ _ _ _ _ h3)
 have hup:Up dn dr (fun i=>s.nx+i) (fun r=>s.nr+r) c' w' c1 w':=⟨hvis',fun i g _ hg=>hpu i g hg,fun q hq=>by
   have hq:q < c'.rows.length:=by omega
   exact ⟨_,hru q _ (List.getElem?_eq_getElem hq),List.getElem?_eq_getElem hq⟩⟩
 have st1:St G c1 w' ⟨h3++s.h,s.nx+dn,F2.map (fun p=>(s.nr+p.1,p.2))++s.F,s.nr+dr⟩:=by
   refine ⟨by simp only [c1,List.length_append];omega,hb.desc hs.desc hs'.desc,fun i j g h1 h2=>?_,fun g hg=>?_,fun id g b h1 h2=>?_,by simp only [c1,List.length_append];omega,fun q g n cap sz hq=>?_,fun q n hq=>?_,fun g hg=>?_,fun g i hb=>Nat.lt_of_lt_of_le (hs.blow g i hb) hchg.size,fun q q' g n cap sz n' cap' sz' h1 h2=>?_,fun g cs hg'=>(hs.glob g cs hg').mono ext,Nat.le_trans hs.bsz hchg.size⟩
   · rcases hpc i g h1 with ⟨_,a1⟩ | ⟨k,rfl,a1⟩<;>rcases hpc j g h2 with ⟨_,a2⟩ | ⟨k2,rfl,a2⟩
     · exact hs.nodup _ _ _ a1 a2
     · have:=hs.Jx (List.mem_of_getElem? a1);have:=hpn g (List.mem_of_getElem? a2);omega
     · have:=hs.Jx (List.mem_of_getElem? a2);have:=hpn g (List.mem_of_getElem? a1);omega
     · rw [hs'.nodup _ _ _ a1 a2]
   · rcases hmc g hg with hm | hm
     · exact hs.low g hm
     · exact Nat.le_trans hs.bsz (hpn g hm)
   · rcases hb.look h2 with ⟨i,b0,rfl,h4,h5⟩ | h4
     · rcases hpc _ g h1 with ⟨a0,_⟩ | ⟨k,a0,a1⟩
       · omega
       · have:k=i:=by omega
         subst this
         obtain ⟨o,ho,hbo⟩:=hs'.box k g b0 a1 h4
         exact ⟨o,ho,h5.up hup hbo⟩
     · have hlt:=RT hs.desc h4
       rcases hpc _ g h1 with ⟨_,a1⟩ | ⟨k,a0,_⟩
       · obtain ⟨o,ho,hbo⟩:=hs.box id g b a1 h4
         refine ⟨o,?_,hbo.mono ext⟩
         rw [hchg.block g (Array.getElem?_eq_some_iff.1 ho).1 (fun hf=>hf)]
         exact ho
       · omega
   · rcases hrc q _ hq with ⟨_,h3⟩ | ⟨k,_,h3⟩
     · obtain ⟨a1,a2,a3,a4,vs',T,a5,a6⟩:=hs.row _ _ _ _ _ h3
       refine ⟨a1,a2,fun hm=>?_,a4,vs',T,?_,a6⟩
       · rcases hmc g hm with hm | hm
         · exact a3 hm
         · have:=hpn g hm;have:=hs.OZ h3;omega
       · rw [hchg.block g (Array.getElem?_eq_some_iff.1 a5).1 (fun hf=>hf)]
         exact a5
     · obtain ⟨a1,a2,a3,a4,a5⟩:=hs'.row _ _ _ _ _ h3
       have hge:=hrn _ _ _ _ _ h3
       refine ⟨fun i hb=>?_,Nat.le_trans hs.bsz hge,fun hm=>?_,a4,a5⟩
       · have:=hs.blow _ _ hb;omega
       · rcases hmc g hm with hm | hm
         · have:=hs.Jx hm;omega
         · exact a3 hm
   · rcases bJ hq with ⟨k,rfl,h4⟩ | h4
     · rcases hs'.rfree k n h4 with ⟨h5,h6⟩ | ⟨g,cap,sz,h5⟩
       · exact .inl ⟨hru _ _ h5,h6⟩
       · exact .inr ⟨g,cap,sz,hru _ _ h5⟩
     · have key:∀ x,cx.rows[q]?=some x→c1.rows[q]?=some x:=fun x hh=>by
         show (cx.rows++c'.rows)[q]?=_
         rw [List.getElem?_append_left (List.getElem?_eq_some_iff.1 hh).1];exact hh
       rcases hs.rfree q n h4 with ⟨h5,h6⟩ | ⟨g,cap,sz,h5⟩
       · exact .inl ⟨key _ h5,h6⟩
       · exact .inr ⟨g,cap,sz,key _ h5⟩
   · rcases hmc g hg with hm | hm
     · exact Nat.lt_of_lt_of_le (hs.plow g hm) hchg.size
     · exact hs'.plow g hm
   · rcases hrc q _ h1 with ⟨_,a1⟩ | ⟨k,rfl,a1⟩<;>rcases hrc q' _ h2 with ⟨_,a2⟩ | ⟨k2,rfl,a2⟩
     · exact hs.rdist _ _ _ _ _ _ _ _ _ a1 a2
     · have:=hs.OZ a1;have:=hrn _ _ _ _ _ a2;omega
     · have:=hs.OZ a2;have:=hrn _ _ _ _ _ a1;omega
     · rw [hs'.rdist _ _ _ _ _ _ _ _ _ a1 a2]
 exact ⟨c1,ext,st1,u,rfl,hv.up hup hu⟩
def YY {f:FuncId} {args:List AV} {nx nr:Nat} {v:AV} {h:List (Nat×A5)} {dn:Nat} {F:List (Nat×Nat)} {dr:Nat} (h1:Cd.ok P G (.callN f args nx nr v h dn F dr)):PC P G :=
 ⟨.cn v h dn F dr,[.callN f args nx nr v h dn F dr],⟨h1,trivial⟩⟩
end
end AI
namespace AI
open Go Go.RowKit
section
variable {P:Program} {G:A8}
theorem Kp.eM {α:Type} {f:α→List AV} {C:List α→List AV} {k:Nat} (h:Kp f C k) (h1:∀ x,(f x).all one=true) (m:List α):(C m).all one=true:=by
 rw [h.eq,List.all_eq_true]
 intro a ha
 obtain ⟨x,_,hx⟩:=List.mem_flatMap.1 ha
 exact List.all_eq_true.1 (h1 x) a hx
theorem Kp.ga {α:Type} {f:α→List AV} {C:List α→List AV} {k:Nat} (h:Kp f C k) {t tx e e2 by':Nat} (hu:P.underlying t=some (.slice e)) (hux:P.underlying tx=some (.slice e2)) (hi:(P.info? e).map (fun i=>(i.size,i.bytes,i.zero.map (·.cells.size)))=some (k,by',some k)) (hk:0 < k) (hb:by'≤10000)
   (own:Own) (l m:List α) {o:Own} (s:AS) (hm:m.length=0) (hlen:l.length+m.length≤100000000):Cd.ok P G (.R7 s t tx (.sl own l.length (C l)) (.sl o m.length (C m)) (.sl own l.length (C l)) s):=by
 have hm0:m=[]:=List.eq_nil_of_length_eq_zero hm
 subst hm0
 cases hq:P.info? e with
 | none=>rw [hq] at hi;cases hi
 | some i =>
   rw [hq] at hi
   simp only [Option.map_some,Option.some.injEq,Prod.mk.injEq] at hi
   obtain ⟨h1,h2,h3⟩:=hi
   cases hz:i.zero with
   | none=>rw [hz] at h3;cases h3
   | some z =>
     rw [hz] at h3
     simp only [Option.map_some,Option.some.injEq] at h3
     have hc:C []=[]:=by rw [h.eq];rfl
     have hll:(C l).length=l.length*k:=by rw [h.eq,J7 h.len]
     refine ⟨.sl own l.length (C l),?_,fun c w u hr=>hr⟩
     have hs:Y1 P s i.size tx (.sl o ([]:List α).length (C []))=some (0,[]):=by
       unfold Y1
       rw [hux,hc]
       simp
     unfold KO
     simp only [hu,hq,hz]
     rw [if_pos ⟨by rw [h3,h1],by omega⟩,hs]
     simp only [List.length_nil] at hlen ⊢
     have hbb:(l.length+0)*i.bytes≤140737488355328:=by
       rw [h2]
       exact Nat.le_trans (Nat.mul_le_mul hlen hb) (by decide)
     rw [if_pos ⟨by rw [hll,h1],rfl,hbb,by omega⟩,if_pos trivial]
def pga {s:AS} {t tx:TypeId} {a b:AV} (h:Cd.ok P G (.R7 s t tx a b a s)):PC P G:=⟨.a a s,[.R7 s t tx a b a s],⟨h,trivial⟩⟩
end
end AI
namespace AI
open Go Go.RowKit
def tH:Nat→Nat→List Nat→List Nat
 | 0,_,acc=>acc
 | k+1,n,acc=>match Nat.ble n 1 with
   | true=>acc
   | false=>tH k (n / 2) (n % 2::acc)
def sb (c:Code) (n:Nat):Code:=sub c (tH 200 n [])
def wk1 (a:AV):AV→AV
 | .any=>Yh a
 | .sl .lost _ _=>(match a with
   | .sl _ n cs=>.sl .lost n cs
   | a=>a)
 | _=>a
theorem xZ {c:Cx} {w:World} {a b:AV} {v:Value} (hr:Rp c w a v):Rp c w (wk1 a b) v:=by
 unfold wk1
 split
 · exact c6 hr
 · split
   · cases hr with
     | sl0 _=>exact .sl0 trivial
     | sl1 hn hc _=>exact .sl1 hn hc trivial
   · exact hr
 · exact hr
def wkF:List AV→List AV→List AV
 | a::l,b::k=>wk1 a b::wkF l k
 | l,_=>l
theorem Yo {c:Cx} {w:World}:∀ {l k:List AV} {vs:List Value},Cz c w l vs→Cz c w (wkF l k) vs
 | [],k,_,h=>by cases k<;>exact h
 | a::l,[],_,h=>h
 | a::l,b::k,_,h=>by cases h with | cons h1 t=>exact .cons (xZ h1) (Yo t)
def Yq (n:Nat):AV→Bool
 | .fn _ a b=>obvL a&&obvL b
 | a=>obv n a
where
 obvL:List AV→Bool
   | []=>true
   | a::l=>obv n a&&obvL l
theorem RW {n m:Nat}:∀ {l:List AV},Yq.obvL n l=true→CZ n m l=true
 | [],_=>rfl
 | a::l,h=>by
   simp only [Yq.obvL,Bool.and_eq_true] at h
   simp only [CZ,Bool.and_eq_true]
   refine ⟨?_,RW h.2⟩
   have h1:=h.1
   cases a<;>simp only [obv] at h1<;>first | rfl | (cases h1;done) | exact decide_eq_true (Nat.le_of_ble_eq_true h1)
theorem pZ {n m:Nat} {a:AV} (h:Yq n a=true):Fits n m a a:=by
 cases a with
 | fn f a b =>
   simp only [Yq,Bool.and_eq_true] at h
   exact .under (by simp only [under,Bool.and_eq_true];exact ⟨RW h.1,RW h.2⟩)
 | _=>exact jY h
def YJ (r:List AV→MR) (n:Nat) (a:AV) (bs:List AV):MR:=match Yq n a with
 | true=>Uw a (r bs)
 | false=>none
def Uf (n:Nat):List AV→List AV→List AV→MR
 | [],_,[]=>some ([],[])
 | [],_,_::_=>none
 | a::l,[],bs=>UZ (Uf n l []) a bs
 | a::l,b::k,bs=>match NO b with
   | true=>UZ (Uf n l k) a bs
   | false=>(match Yq n b with
     | true=>YJ (Uf n l k) n a bs
     | false=>mU (Uf n l k) a bs)
theorem bN {n m:Nat} {r:List AV→MR} {l:List AV} (hr:∀ (fps:List (FP n m)) l2,r (Va fps)=some (l2,XI fps)→H3 n m l l2) {a:AV} {fps:List (FP n m)} {l2:List AV} (h:YJ r n a (Va fps)=some (l2,XI fps)):H3 n m (a::l) l2:=by
 unfold YJ at h
 split at h
 · rename_i ho
   unfold Uw at h
   split at h
   · rename_i l3 as h1
     cases h
     exact .cons (pZ ho) (hr fps _ h1)
   · cases h
 · cases h
theorem nO {n m:Nat}:∀ {l k:List AV} {fps:List (FP n m)} {l2:List AV},Uf n l k (Va fps)=some (l2,XI fps)→H3 n m l l2:=by
 intro l
 induction l with
 | nil =>
   intro k fps l2 h
   cases fps with
   | nil=>simp only [Va,Uf] at h;cases h;exact .nil
   | cons p fps=>simp only [Va,Uf] at h;cases h
 | cons a l ih =>
   intro k fps l2 h
   cases k with
   | nil=>simp only [Uf] at h;exact Pw (fun fps l2 h=>ih h) h
   | cons b k =>
     simp only [Uf] at h
     split at h
     · exact Pw (fun fps l2 h=>ih h) h
     · split at h
       · exact bN (fun fps l2 h=>ih h) h
       · exact Z8 (fun fps l2 h=>ih h) h
abbrev FO (n m:Nat):=Option (FB n m)
def lG {n m:Nat}:List (FO n m)→List (Option A5)
 | []=>[]
 | none::l=>none::lG l
 | some p::l=>some p.a::lG l
def bE {n m:Nat}:List (FO n m)→List (Option A5)
 | []=>[]
 | none::l=>none::bE l
 | some p::l=>some p.b::bE l
def aeX (n:Nat):A5→Bool
 | .cells cs=>Yq.obvL n cs
 | _=>false
abbrev BO:=Option (List (Nat×A5)×List (Option A5))
def ZV (id:Nat) (a:Option A5) (b:A5):BO→BO
 | some (l,as)=>some ((id,b)::l,a::as)
 | none=>none
def Ug (n:Nat):List (Nat×A5)→List (Option A5)→BO
 | [],[]=>some ([],[])
 | e::l,none::bs=>(match aeX n e.2 with
   | true=>ZV e.1 none e.2 (Ug n l bs)
   | false=>none)
 | e::l,some b::bs=>ZV e.1 (some e.2) b (Ug n l bs)
 | _,_=>none
theorem m7 {n m:Nat}:∀ {l:List (Nat×A5)} {fbs:List (FO n m)} {l2:List (Nat×A5)},Ug n l (bE fbs)=some (l2,lG fbs)→(∀ k,Hm l k→Hm l2 k)∧∀ id b,look id l2=some b→∃ b',look id l=some b'∧Mh n m b' b:=by
 intro l
 induction l with
 | nil =>
   intro fbs l2 h
   cases fbs with
   | nil=>simp only [bE,Ug] at h;cases h;exact ⟨fun _ _=>trivial,fun id b h=>by cases h⟩
   | cons p fbs=>cases p<;>(simp only [bE,Ug] at h;cases h)
 | cons e l ih =>
   intro fbs l2 h
   have fin:∀ {fbs:List (FO n m)} {l3:List (Nat×A5)} {b2:A5},Ug n l (bE fbs)=some (l3,lG fbs)→Mh n m e.2 b2→(∀ k,Hm (e::l) k→Hm ((e.1,b2)::l3) k)∧∀ id b,look id ((e.1,b2)::l3)=some b→∃ b',look id (e::l)=some b'∧Mh n m b' b:=by
     intro fbs l3 b2 h1 hf
     obtain ⟨hd,hl⟩:=ih h1
     refine ⟨fun k hk=>⟨hk.1,hd _ hk.2⟩,fun id b hb=>?_⟩
     simp only [look] at hb ⊢
     split at hb
     · cases hb;exact ⟨e.2,rfl,hf⟩
     · exact hl id b hb
   cases fbs with
   | nil=>simp only [bE,Ug] at h;cases h
   | cons p fbs =>
     cases p with
     | none =>
       simp only [bE,Ug] at h
       split at h
       · rename_i ho
         unfold ZV at h
         split at h
         · rename_i l3 as h1
           simp only [lG,Option.some.injEq,Prod.mk.injEq,List.cons.injEq,true_and] at h
           obtain ⟨rfl,rfl⟩:=h
           refine fin h1 ?_
           cases he:e.2 with
           | cells cs=>rw [he] at ho;exact .cells (.under (RW ho))
           | _=>rw [he] at ho;cases ho
         · cases h
       · cases h
     | some p =>
       simp only [bE,Ug] at h
       unfold ZV at h
       split at h
       · rename_i l3 as h1
         simp only [lG,Option.some.injEq,Prod.mk.injEq,List.cons.injEq] at h
         obtain ⟨rfl,h2,rfl⟩:=h
         exact fin h1 (by rw [h2];exact p.h)
       · cases h
abbrev RO2:=Option (List AV×AS×List AV×List (Option A5))
def oY (tgt:List AV) (n m:Nat) (fr':List AV) (s':AS) (bs:List AV) (cs:List (Option A5)):RO2 :=
 match Uf n fr' tgt bs with
 | some (fr2,as)=>(match Ug n (OQ n s'.h) cs with
   | some (h2,cas)=>some (fr2,⟨h2,n,Ri m s'.F,m⟩,as,cas)
   | none=>none)
 | none=>none
section
variable {P:Program} {G:A8}
theorem Vq (hG:∀ g cs,G g=some cs→Bu cs=true) {tgt:List AV} {s0:AS} {fr':List AV} {s':AS} {fps:List (FP s0.nx s0.nr)} {fbs:List (FO s0.nx s0.nr)} {fr2:List AV} {s2:AS} (h:oY tgt s0.nx s0.nr fr' s' (Va fps) (bE fbs)=some (fr2,s2,XI fps,lG fbs)):aO G s0 fr' s' fr2 s2:=by
 unfold oY at h
 split at h
 · rename_i f1 as hm
   split at h
   · rename_i h1 cas hb
     simp only [Option.some.injEq,Prod.mk.injEq] at h
     obtain ⟨rfl,rfl,rfl,rfl⟩:=h
     intro cx w c' w' vs hx hs hs' hfr
     obtain ⟨hd,hl⟩:=m7 hb
     refine pV (s:=s0) (s2:=⟨h1,s0.nx,Ri s0.nr s'.F,s0.nr⟩) hG rfl rfl (hd _ (W8 hs'.desc)) (fun id b hb=>?_) (fun r n hr=>Ws hr) (nO hm) cx w c' w' vs hx hs hs' hfr
     obtain ⟨b',h3,h4⟩:=hl id b hb
     exact ⟨b',O0 hs'.desc h3,h4⟩
   · cases h
 · cases h
theorem aO.wk {s0 s':AS} {fr' k:List AV}:aO G s0 fr' s' (wkF fr' k) s':=fun _ _ c' _ _ hx _ hs' hfr=>⟨c',hx,hs',Yo hfr⟩
def nA (tgt:List AV):HR→Option (AX×List Cd×List AV×AS)
 | some (.fin e,[],cd,fr,s)=>some (e,cd,wkF fr tgt,s)
 | _=>none
theorem D9 {r:HR} {X:Prop} {L:Code} {s0:AS} {Q:AX→List AV→AS→Prop} {l:List (PC P G)} {fr2:List AV} {s2:AS} (R:Tz P G l (Qk P G L s0 Q) r X) (h:nA fr2 r=some (.normal,dZ l,fr2,s2)) (k:WL P G (XS P G) H0 L fr2 s2 Q):X:=by
 unfold nA at h
 split at h
 · simp only [Option.some.injEq,Prod.mk.injEq] at h
   obtain ⟨rfl,rfl,h3,rfl⟩:=h
   exact R _ _ _ _ rfl (Nv l) ⟨_,_,h3▸aO.wk,k⟩
 · cases h
theorem B1 {r:HR} {X:Prop} {L:Code} {s0:AS} {Q:AX→List AV→AS→Prop} {l:List (PC P G)} {id:Nat} {fr2:List AV} {s2:AS} (R:Tz P G l (Qk P G L s0 Q) r X) (h:nA fr2 r=some (.exit id,dZ l,fr2,s2)) (k:Q (.exit id) fr2 s2):X:=by
 unfold nA at h
 split at h
 · simp only [Option.some.injEq,Prod.mk.injEq] at h
   obtain ⟨rfl,rfl,h3,rfl⟩:=h
   exact R _ _ _ _ rfl (Nv l) ⟨_,_,h3▸aO.wk,k⟩
 · cases h
def sR (tgt:List AV) (n m:Nat) (bs:List AV) (cs:List (Option A5)):HR→Option (AX×List Cd×List AV×AS×List AV×List (Option A5))
 | some (.fin e,[],cd,fr,s)=>(match oY tgt n m fr s bs cs with
   | some (fr2,s2,as,cas)=>some (e,cd,fr2,s2,as,cas)
   | none=>none)
 | _=>none
theorem Bt (hG:∀ g cs,G g=some cs→Bu cs=true) {r:HR} {X:Prop} {L:Code} {s0:AS} {Q:AX→List AV→AS→Prop} {l:List (PC P G)} (fps:List (FP s0.nx s0.nr)) (fbs:List (FO s0.nx s0.nr)) {fr2:List AV} {s2:AS} (R:Tz P G l (Qk P G L s0 Q) r X)
   (h:sR fr2 s0.nx s0.nr (Va fps) (bE fbs) r=some (.normal,dZ l,fr2,s2,XI fps,lG fbs)) (k:WL P G (XS P G) H0 L fr2 s2 Q):X:=by
 unfold sR at h
 split at h
 · split at h
   · rename_i h1
     simp only [Option.some.injEq,Prod.mk.injEq] at h
     obtain ⟨rfl,rfl,rfl,rfl,rfl,rfl⟩:=h
     exact R _ _ _ _ rfl (Nv l) ⟨_,_,Vq hG h1,k⟩
   · cases h
 · cases h
def oJ (n m0:Nat) (P:Program) (fn:Func) (m:Nat) (e0:AX) (tgt bs:List AV) (cs:List (Option A5)):HR→Option (AX×List Cd×List AV×AS×List AV×List (Option A5))
 | some (.fin e,[],cd,fr,s)=>(match Gl P s fn fr with
   | some v=>(match oY tgt n m0 [v] (s.cut m) bs cs with
     | some (fr2,s2,as,cas)=>some (e,cd,fr2,s2,as,cas)
     | none=>none)
   | none=>none)
 | _=>none
theorem Ao (hG:∀ g cs,G g=some cs→Bu cs=true) {r:HR} {X:Prop} {s0:AS} {Q:AX→List AV→AS→Prop} (fn:Func) (m:Nat) {l:List (PC P G)} (fps:List (FP s0.nx s0.nr)) (fbs:List (FO s0.nx s0.nr)) {v:AV} {s2:AS} (R:Tz P G l Q r X)
   (h:oJ s0.nx s0.nr P fn m .ret [v] (Va fps) (bE fbs) r=some (.ret,dZ l,[v],s2,XI fps,lG fbs)) (k:Iu P G fn m s0 Q v s2):X:=by
 unfold oJ at h
 split at h
 · split at h
   · rename_i v' hv
     split at h
     · rename_i h1
       simp only [Option.some.injEq,Prod.mk.injEq] at h
       obtain ⟨rfl,rfl,rfl,rfl,rfl,rfl⟩:=h
       exact R _ _ _ _ rfl (Nv l) (k _ _ (Vq hG h1) _ _ hv rfl)
     · cases h
   · cases h
 · cases h
theorem FL (hG:∀ g cs,G g=some cs→Bu cs=true) {r:HR} {X:Prop} {s0:AS} (fn:Func) (m:Nat) {l:List (PC P G)} (fps:List (FP s0.nx s0.nr)) (fbs:List (FO s0.nx s0.nr)) {v:AV} {s2:AS} (R:Tz P G l (OH P fn m (QM G s0 (.ret v) s2)) r X)
   (h:oJ s0.nx s0.nr P fn m .normal [v] (Va fps) (bE fbs) r=some (.normal,dZ l,[v],s2,XI fps,lG fbs)):X:=by
 unfold oJ at h
 split at h
 · split at h
   · rename_i v' hv
     split at h
     · rename_i h1
       simp only [Option.some.injEq,Prod.mk.injEq] at h
       obtain ⟨rfl,rfl,rfl,rfl,rfl,rfl⟩:=h
       exact R _ _ _ _ rfl (Nv l) ⟨_,hv,_,rfl,Vq hG h1⟩
     · cases h
   · cases h
 · cases h
def acq (z:List NZ) (tgt:List AV):HR→Option (List Cd×Nat×Code×List KI×List AV×AS)
 | some (.at id c ks,[],cd,fr,s)=>(match nzs z fr s with
   | some (fr2,s2)=>some (cd,id,c,ks,wkF fr2 tgt,s2)
   | none=>none)
 | _=>none
theorem Dq {r:HR} {X:Prop} {Q:AX→List AV→AS→Prop} {l:List (PC P G)} (z:List NZ) (id:Nat) (L:Code) (ks2:List KI) {fr2:List AV} {s2:AS} (R:Tz P G l Q r X)
   (h:acq z fr2 r=some (dZ l,id,L,ks2,fr2,s2)) (k:WL P G (XS P G) H0 L fr2 s2 (CM id (CE P G ks2 Q))):X:=by
 unfold acq at h
 split at h
 · split at h
   · rename_i fr3 s3 hz
     simp only [Option.some.injEq,Prod.mk.injEq] at h
     obtain ⟨rfl,rfl,rfl,rfl,h5,rfl⟩:=h
     refine R _ _ _ _ rfl (Nv l) ?_
     obtain ⟨e3,fr4,s4,h3,h4⟩:=k
     refine ⟨e3,fr4,s4,.weakL (fun cx w vs hs hr=>?_) h3,h4⟩
     obtain ⟨c2,x2,st2,r2⟩:=fQ hz cx w vs hs hr
     exact ⟨c2,x2,st2,h5▸Yo r2⟩
   · cases h
 · cases h
def jv (j:List Value) (k:Nat):Value:=yN j k
def hdv (p:Nat):List (Nat×Value)→Option Value
 | []=>none
 | e::_=>(match Nat.beq e.1 p with | true=>some e.2 | false=>none)
def jsN (j:List Value) (l:List (Nat×Value)) (k:Nat):Nat→List Value
 | 0=>[]
 | n+1=>(match hdv k l with
   | some v=>v::jsN j (l.drop 1) (k+1) n
   | none=>jv j k::jsN j l (k+1) n)
def js (n:Nat) (j:List Value) (l:List (Nat×Value)):List Value:=jsN j l 0 n
def frQ:Nat→Nat→List (Nat×AV)→List Nat→Nat→List Value→List AV
 | 0,_,_,_,_,_=>[]
 | n+1,p,l,bs,kb,j=>(match frm.hd1 p l with
   | some v=>v::frQ n (p+1) (l.drop 1) bs kb j
   | none=>(match frm.hd2 p bs with
     | true=>.sc (jv j kb)::frQ n (p+1) l (bs.drop 1) (kb+1) j
     | false=>.any::frQ n (p+1) l bs kb j))
def fr (n:Nat) (l:List (Nat×AV)) (bs:List Nat) (j:List Value):List AV:=frQ n 0 l bs 0 j
def OB {δ:Type} (Q:AX→List AV→AS→Prop) (id:Nat) (F:δ→List Value→List AV) (S:δ→AS) (d:δ):Prop:=∀ j,Q (.exit id) (F d j) (S d)
section loops
variable {α γ δ ρ β:Type} {id:Nat} {L:Code} {ks2:List KI} {Q:AX→List AV→AS→Prop} {done:γ→δ} {X:Prop} {k:δ→Option β} {kr:ρ→Option β} {r:β}
theorem DF (Rv:(AX→List AV→AS→Prop)→ρ→Prop) {body:Nat→α→γ→Option (Lp γ δ ρ)} {l:List α} {i0:Nat} {x:γ} (F:Nat→γ→List Value→List AV) (S:γ→AS) (XF:δ→List Value→List AV) (SX:δ→AS) (j:List Value)
   (hat:WL P G (XS P G) H0 L (F i0 x j) (S x) (CM id (CE P G ks2 Q))→X)
   (hz:∀ i x j,l.length≤i→OB (CM id (CE P G ks2 Q)) id XF SX (done x)→W P G (XS P G) H0 L (F i x j) (S x) (Qk P G L (S x) (CM id (CE P G ks2 Q))))
   (hs:∀ i y x j r,l[i]?=some y→i < l.length→i < 9223372036854775807→RQ (fun x'=>∀ j',WL P G (XS P G) H0 L (F (i+1) x' j') (S x') (CM id (CE P G ks2 Q))) (OB (CM id (CE P G ks2 Q)) id XF SX) (Rv (CM id (CE P G ks2 Q))) r→body i y x=some r→W P G (XS P G) H0 L (F i x j) (S x) (Qk P G L (S x) (CM id (CE P G ks2 Q))))
   (hb:∀ d j,k d=some r→CE P G ks2 Q .normal (XF d j) (SX d)) (hr:∀ v,kr v=some r→Rv (CM id (CE P G ks2 Q)) v) :
   (GW l.length (AL body done (l.drop i0) i0 x)).bind (GQ k kr)=some r→X:=fun h=>by
 obtain ⟨res,h1,h2⟩:=Vr h
 obtain ⟨hl,h1⟩:=adm h1
 refine hat (rG l F (fun _ x _=>S x) (fun _=>True) (OB (CM id (CE P G ks2 Q)) id XF SX) (Rv (CM id (CE P G ks2 Q))) (fun i x j _ h3 h4=>SF (hz i x j h3 h4)) (fun i y x j r _ h3 h4 h5 h6=>SF (hs i y x j r h3 h4 (by omega) (by cases r with | nx _=>exact fun j'=>h6 j' trivial | ex _=>exact h6 | rt _=>exact h6) h5)) i0 h1 ?_ j trivial)
 cases res with
 | inl d =>
   intro j
   show CE P G ks2 Q (EH id (.exit id)) _ _
   rw [show EH id (.exit id)=.normal from by simp [EH]]
   exact hb d j h2
 | inr v=>exact hr v h2
theorem ae1 (Rv:(AX→List AV→AS→Prop)→ρ→Prop) {body:Nat→γ→Option (Lp γ δ ρ)} {n:Nat} {x:γ} (F:Nat→γ→List Value→List AV) (S:γ→AS) (XF:δ→List Value→List AV) (SX:δ→AS) (j:List Value)
   (hat:WL P G (XS P G) H0 L (F 0 x j) (S x) (CM id (CE P G ks2 Q))→X)
   (hz:∀ x j,n≤n→OB (CM id (CE P G ks2 Q)) id XF SX (done x)→W P G (XS P G) H0 L (F n x j) (S x) (Qk P G L (S x) (CM id (CE P G ks2 Q))))
   (hs:∀ i x j r,i < n→i < 9223372036854775807→RQ (fun x'=>∀ j',WL P G (XS P G) H0 L (F (i+1) x' j') (S x') (CM id (CE P G ks2 Q))) (OB (CM id (CE P G ks2 Q)) id XF SX) (Rv (CM id (CE P G ks2 Q))) r→body i x=some r→W P G (XS P G) H0 L (F i x j) (S x) (Qk P G L (S x) (CM id (CE P G ks2 Q))))
   (hb:∀ d j,k d=some r→CE P G ks2 Q .normal (XF d j) (SX d)) (hr:∀ v,kr v=some r→Rv (CM id (CE P G ks2 Q)) v) :
   (GW n (Vz body done n 0 x)).bind (GQ k kr)=some r→X:=fun h=>by
 obtain ⟨res,h1,h2⟩:=Vr h
 obtain ⟨hl,h1⟩:=adm h1
 refine hat (vS n F (fun _ x _=>S x) (fun _=>True) (OB (CM id (CE P G ks2 Q)) id XF SX) (Rv (CM id (CE P G ks2 Q))) (fun x j _ h4=>SF (hz x j (Nat.le_refl n) h4)) (fun i x j r _ h4 h5 h6=>SF (hs i x j r h4 (by omega) (by cases r with | nx _=>exact fun j'=>h6 j' trivial | ex _=>exact h6 | rt _=>exact h6) h5)) h1 ?_ j trivial)
 cases res with
 | inl d =>
   intro j
   show CE P G ks2 Q (EH id (.exit id)) _ _
   rw [show EH id (.exit id)=.normal from by simp [EH]]
   exact hb d j h2
 | inr v=>exact hr v h2
theorem adH (Rv:(AX→List AV→AS→Prop)→ρ→Prop) {body:γ→Option (Lp γ δ ρ)} {x:γ} (F:γ→List Value→List AV) (S:γ→AS) (XF:δ→List Value→List AV) (SX:δ→AS) (j:List Value)
   (hat:WL P G (XS P G) H0 L (F x j) (S x) (CM id (CE P G ks2 Q))→X)
   (hs:∀ x j r,RQ (fun x'=>∀ j',WL P G (XS P G) H0 L (F x' j') (S x') (CM id (CE P G ks2 Q))) (OB (CM id (CE P G ks2 Q)) id XF SX) (Rv (CM id (CE P G ks2 Q))) r→body x=some r→W P G (XS P G) H0 L (F x j) (S x) (Qk P G L (S x) (CM id (CE P G ks2 Q))))
   (hb:∀ d j,k d=some r→CE P G ks2 Q .normal (XF d j) (SX d)) (hr:∀ v,kr v=some r→Rv (CM id (CE P G ks2 Q)) v) :
   (YH body x).bind (GQ k kr)=some r→X:=fun h=>by
 obtain ⟨res,h1,h2⟩:=Vr h
 obtain ⟨n,h1⟩:=rZ h1
 refine hat (m6 F (fun x _=>S x) (fun _=>True) (OB (CM id (CE P G ks2 Q)) id XF SX) (Rv (CM id (CE P G ks2 Q))) (fun x j r _ h5 h6=>SF (hs x j r (by cases r with | nx _=>exact fun j'=>h6 j' trivial | ex _=>exact h6 | rt _=>exact h6) h5)) n h1 ?_ j trivial)
 cases res with
 | inl d =>
   intro j
   show CE P G ks2 Q (EH id (.exit id)) _ _
   rw [show EH id (.exit id)=.normal from by simp [EH]]
   exact hb d j h2
 | inr v=>exact hr v h2
end loops
theorem BJ {ks:List KI} {fr:List AV} {s:AS} {Q:AX→List AV→AS→Prop} (n:Nat) (l:List (PC P G)):Tz P G l Q (Oq (TP P G n) ks .normal (pHs l) fr s) (CE P G ks Q .normal fr s):=fun _ _ _ _ h hc hk=>Zu (Zw n) ks _ h hc hk
def pi {i:Nat} (h:i < 9223372036854775807):PC P G:=aeN i h
def bp {n m:Nat} {a:List AV} (h:Bu a=true):FO n m:=some ⟨.cells a,.cells a,.cells (.plain h)⟩
def bu {n m:Nat} (a:List AV) (h:CZ n m a=true):FO n m:=some ⟨.cells a,.cells a,.cells (.under h)⟩
def bw {n m:Nat} (a b:A5) (h:Mh n m a b):FO n m:=some ⟨a,b,h⟩
theorem unR {n m r sz k:Nat} {l:List AV} (h:decide (r < m)=true) (t:CZ n m l=true):under n m (.sl (.row r sz) k l)=true:=by simp only [under,h,t];rfl
def br {α:Type} {f:α→List AV} {C:List α→List AV} {k n m:Nat} (h:Kp f C k) (r z:Nat) (w:List α) (hr:decide (r < m)=true:=by rfl):FO n m:=some ⟨.cells [.sl (.row r z) w.length (C w)],.cells [.sl (.row r z) w.length (C w)],.cells (.under (by simp only [CZ,unR hr (Aj _ _ (h.AW w))];rfl))⟩
theorem pure_nil {f:FuncId} {n:Nat} {cs:List AV} {v:AV} (h1:n=0→cs=[]→Pure P G f [.sl .nil 0 []] v) (h2:Pure P G f [.sl .nn n cs] v):Pure P G f [.sl .lost n cs] v:=fun s cx w vs hs ha=>by
 cases ha with
 | cons h t =>
   cases h with
   | @sl0 _ A cap _ =>
     cases hA:A.isNone with
     | true=>exact h1 rfl rfl s cx w _ hs (.cons (.sl0 hA) t)
     | false=>exact h2 s cx w _ hs (.cons (.sl0 hA) t)
   | sl1 hn hc _=>exact h2 s cx w _ hs (.cons (.sl1 hn hc trivial) t)
theorem abb {n:Nat} {l:List AV} (h:Bu l=true):plain (.sl .nn n l)=true:=by simp only [plain,h];rfl
end
end AI
namespace AI
open Go Go.RowKit
section
variable {P:Program} {G:A8}
def uA (G:A8) (s:AS) (a v:AV):Prop:=∀ (c:Cx) (w:World) (u:Value),St G c w s→(∀ g,some g∈c.Cl→∀ i,¬ c.bad g i)→Rp c w a u→Rp (c.upto 0 0) w v u
inductive Fz (s:AS):List AV→List AV→Prop where
 | nil:Fz s [] []
 | r {a b:AV} {l k:List AV} (h:Fits 0 0 a b) (t:Fz s l k):Fz s (a::l) (b::k)
 | f {id n:Nat} {cs l k:List AV} (h:s.get id=some (.cells cs)) (hp:Bu cs=true) (t:Fz s l k):Fz s (.msl id 0 n::l) (.sl .lost n cs::k)
 | g {cs ds l k:List AV} (h:Fz s cs ds) (t:Fz s l k):Fz s (.agg cs::l) (.agg ds::k)
 | u {cs ds l k:List AV} (h:Fz s cs ds) (t:Fz s l k):Fz s (.Bd cs::l) (.Bd ds::k)
theorem Fz.ok {s:AS} {c:Cx} {w:World} (hs:St G c w s) (hb:∀ g,some g∈c.Cl→∀ i,¬ c.bad g i) {l k:List AV} (h:Fz s l k):∀ {us:List Value},Cz c w l us→Cz (c.upto 0 0) w k us:=by
 induction h with
 | nil=>intro us hr;cases hr;exact .nil
 | r h _ ih=>intro us hr;cases hr with | cons h1 t=>exact .cons (h _ _ _ h1) (ih t)
 | @f id n cs l k h hp _ ih =>
   intro us hr
   cases hr with
   | cons h1 t =>
     refine .cons ?_ (ih t)
     cases h1 with
     | @msl _ _ _ g cap hn hid =>
       obtain ⟨vs,ext,T,hw,hv⟩:=KV hs hid h
       have hg:=List.mem_of_getElem? hid
       have hvis:∀ g i v,Kb c w g i v→Kb (c.upto 0 0) w g i v:=fun g i v hv=>⟨hv.1,fun hsh=>by
         rcases hsh with hsh | ⟨r,n',cap',sz',hr,_⟩ | hsh
         · simp [Cx.upto] at hsh
         · simp [Cx.upto] at hr
         · exact hv.2.1 (.inr (.inr hsh)),hv.2.2⟩
       refine .sl1 hn (Bb.PH (Cz.plain hvis hp hv) (fun i v hi=>?_)) trivial
       rw [Nat.zero_add]
       refine ⟨hs.plow g hg,fun hsh=>?_,cell_of_heap hw (V5 hi)⟩
       rcases hsh with hsh | ⟨r,n',cap',sz',hr,_⟩ | hsh
       · simp [Cx.upto] at hsh
       · simp [Cx.upto] at hr
       · exact hb g hg i hsh
 | g _ _ ih1 ih2=>intro us hr;cases hr with | cons h1 t=>cases h1 with | agg h2=>exact .cons (.agg (ih1 h2)) (ih2 t)
 | u _ _ ih1 ih2=>intro us hr;cases hr with | cons h1 t=>cases h1 with | Bd h2=>exact .cons (.Bd (ih1 h2)) (ih2 t)
theorem uA.of {s:AS} {a v:AV} (h:Fz s [a] [v]):uA G s a v:=fun c w u hs hb hr=>by
 have:=h.ok hs hb (.cons hr .nil)
 cases this with
 | cons h1 _=>exact h1
end
end AI
namespace AI
open Go
theorem Kp.ae8 {P:Program} {α:Type} {f:α→List AV} {C:List α→List AV} {k:Nat} (h:Kp f C k) {t elem:TypeId} (hu:P.underlying t=some (.slice elem)) (hs:(P.info? elem).map (·.size)=some k) (own:Own) (l q:Nat) {s:List α} (h1:l≤q) (h2:q < s.length) (lo hi:Option AV) (e1:Ji 0 lo=some l) (e2:Ji s.length hi=some q) :
   Hi P t (.sl own s.length (C s)) lo hi none=some (.sl .lost ((s.drop l).take (q - l)).length (C ((s.drop l).take (q - l)))):=by
 cases hi':P.info? elem with
 | none=>rw [hi'] at hs;cases hs
 | some e =>
   rw [hi'] at hs
   have hk:e.size=k:=by simpa using hs
   unfold Hi
   simp only [hu,hi',e1,e2,hk]
   rw [if_pos ⟨h1,by omega,by rw [h.eq,J7 h.len]⟩]
   rw [if_neg (by omega),if_neg (by omega),h.eq,h.eq,NL h.len,NC h.len]
   congr 2
   simp;omega
theorem Kp.aek {P:Program} {α:Type} {f:α→List AV} {C:List α→List AV} {k:Nat} (h:Kp f C k) {t elem:TypeId} (hu:P.underlying t=some (.slice elem)) (hs:(P.info? elem).map (·.size)=some k) (own:Own) {s:List α} (hi:Option AV) (e2:Ji s.length hi=some s.length) :
   Hi P t (.sl own s.length (C s)) none hi none=some (.sl own s.length (C s)):=by
 cases hi':P.info? elem with
 | none=>rw [hi'] at hs;cases hs
 | some e =>
   rw [hi'] at hs
   have hk:e.size=k:=by simpa using hs
   unfold Hi
   simp only [hu,hi',show Ji 0 none=some 0 from rfl,e2,hk]
   rw [if_pos ⟨by omega,by omega,by rw [h.eq,J7 h.len]⟩,if_pos ⟨trivial,trivial⟩,Nat.zero_mul,List.drop_zero,Nat.sub_zero,List.take_of_length_le (by rw [h.eq,J7 h.len];omega)]
end AI
