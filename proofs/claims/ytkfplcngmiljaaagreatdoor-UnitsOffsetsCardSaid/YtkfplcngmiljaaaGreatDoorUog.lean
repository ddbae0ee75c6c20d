/- Part of a proof: see the last text. -/
import Derived.Test.YtkfplcngmiljaaaGreatDoorUof
import Derived.Laws.StructEq
set_option linter.unusedVariables false
set_option linter.unusedSimpArgs false
namespace AI
open Go Go.RowKit
inductive Wn:List AV→List AV→Prop where
 | nil:Wn [] []
 | r {a:AV} {l k:List AV} (t:Wn l k):Wn (a::l) (a::k)
 | s {o:Own} {n:Nat} {cs ds l k:List AV} (h:cs=ds) (t:Wn l k):Wn (.sl o n cs::l) (.sl .lost n ds::k)
 | d {o:Own} {n:Nat} {cs ds es l k:List AV} (h:Wn cs ds) (e:ds=es) (t:Wn l k):Wn (.sl o n cs::l) (.sl .lost n es::k)
 | g {cs ds l k:List AV} (h:Wn cs ds) (t:Wn l k):Wn (.agg cs::l) (.agg ds::k)
 | u {cs ds l k:List AV} (h:Wn cs ds) (t:Wn l k):Wn (.Bc cs::l) (.Bc ds::k)
theorem Wn.refl:∀ l:List AV,Wn l l
 | []=>.nil
 | _::l=>.r (Wn.refl l)
theorem Wn.len {l k:List AV} (h:Wn l k):l.length=k.length:=by
 induction h with
 | nil=>rfl
 | r _ ih=>simp [ih]
 | s _ _ ih=>simp [ih]
 | d _ _ _ _ ih=>simp [ih]
 | g _ _ _ ih=>simp [ih]
 | u _ _ _ ih=>simp [ih]
section
variable {c:Cx} {w:World}
mutual
theorem Wn.ok:∀ {l k:List AV},Wn l k→∀ {vs:List Value},A6 c w l vs→A6 c w k vs
 | _,_,.nil,_,hr=>hr
 | _,_,.r t,_,hr=>by cases hr with | cons h1 t1=>exact .cons h1 (t.ok t1)
 | _,_,.s h t,_,hr=>by
   subst h
   cases hr with
   | cons h1 t1 =>
     refine .cons ?_ (t.ok t1)
     cases h1 with
     | sl0 _=>exact .sl0 trivial
     | sl1 hn hc ho=>exact .sl1 hn hc trivial
 | _,_,.d h e t,_,hr=>by
   subst e
   cases hr with
   | cons h1 t1 =>
     refine .cons ?_ (t.ok t1)
     cases h1 with
     | sl0 _=>cases h;exact .sl0 trivial
     | sl1 hn hc ho=>exact .sl1 hn (h.dG hc) trivial
 | _,_,.g h t,_,hr=>by
   cases hr with
   | cons h1 t1 =>
     refine .cons ?_ (t.ok t1)
     cases h1 with
     | agg h2=>exact .agg (h.ok h2)
 | _,_,.u h t,_,hr=>by
   cases hr with
   | cons h1 t1 =>
     refine .cons ?_ (t.ok t1)
     cases h1 with
     | Bc h2=>exact .Bc (h.ok h2)
theorem Wn.dG:∀ {l k:List AV},Wn l k→∀ {g o:Nat},AA c w g o l→AA c w g o k
 | _,_,.nil,_,_,hr=>hr
 | _,_,.r t,_,_,hr=>by cases hr with | cons hv h1 t1=>exact .cons hv h1 (t.dG t1)
 | _,_,.s h t,_,_,hr=>by
   subst h
   cases hr with
   | cons hv h1 t1 =>
     refine .cons hv ?_ (t.dG t1)
     cases h1 with
     | sl0 _=>exact .sl0 trivial
     | sl1 hn hc ho=>exact .sl1 hn hc trivial
 | _,_,.d h e t,_,_,hr=>by
   subst e
   cases hr with
   | cons hv h1 t1 =>
     refine .cons hv ?_ (t.dG t1)
     cases h1 with
     | sl0 _=>cases h;exact .sl0 trivial
     | sl1 hn hc ho=>exact .sl1 hn (h.dG hc) trivial
 | _,_,.g h t,_,_,hr=>by
   cases hr with
   | cons hv h1 t1 =>
     refine .cons hv ?_ (t.dG t1)
     cases h1 with
     | agg h2=>exact .agg (h.ok h2)
 | _,_,.u h t,_,_,hr=>by
   cases hr with
   | cons hv h1 t1 =>
     refine .cons hv ?_ (t.dG t1)
     cases h1 with
     | Bc h2=>exact .Bc (h.ok h2)
end
end
theorem Wn.LW {a b c d:List AV} (h:Wn a b) (k:Wn c d):Wn (a++c) (b++d):=by
 induction a generalizing b with
 | nil=>cases h;exact k
 | cons x a ih =>
   cases h with
   | r t=>exact .r (ih t)
   | s h t=>exact .s h (ih t)
   | d h e t=>exact .d h e (ih t)
   | g h t=>exact .g h (ih t)
   | u h t=>exact .u h (ih t)
theorem Rp.wY {c:Cx} {w:World} {o:Own} {q:Nat} {cs ds:List AV} {u:Value} (h:Wn cs ds) (hr:Rp c w (.sl o q cs) u):Rp c w (.sl o q ds) u:=by
 cases hr with
 | sl0 h0=>cases h;exact .sl0 h0
 | sl1 hn hc ho=>exact .sl1 hn (h.dG hc) (by rw [← h.len];exact ho)
theorem Fits.wn {n m:Nat} {a b:AV} (h:Wn [a] [b]) (hp:AI.plain b=true):Fits n m a b:=fun c w v hr=>by
 have:=h.ok (.cons hr .nil)
 cases this with
 | cons h1 _=>exact Fits.plain hp c w v h1
section
variable {P:Program} {G:AB}
theorem D0 (hm:P.follows .mixedOrders=true) (hG:∀ g cs,G g=some cs→AL cs=true) {f:FuncId} {args:List AV} {v:AV} (h:WC P G (XS P G) H0 f args s0 (fun r _=>∃ a,r=.ret a∧Fits 0 0 a v)) (hp:AL args=true) (hv:plain v=true):Pure P G f args v:=by
 obtain ⟨r,s',hj,a,rfl,hf⟩:=h
 have hS:=sound (Lg hm) hj
 intro s cx w vs hs hargs
 have hvis:∀ g i x,EM cx w g i x→EM ⟨w.heap.size,[],[],cx.LA⟩ w g i x:=by
   intro g i x hx
   refine ⟨hx.1,fun hsh=>?_,hx.2.2⟩
   rcases hsh with hsh | ⟨r,n,cap,sz,hr,_⟩ | hsh
   · cases hsh
   · simp at hr
   · exact hx.2.1 hsh
 have hst:St G ⟨w.heap.size,[],[],cx.LA⟩ w s0 :=
   ⟨rfl,trivial,(fun i j g h1=>by simp at h1),(fun g hg=>by cases hg),(fun id g b h1=>by simp at h1),rfl,(fun r g n cap sz hr=>by simp at hr),(fun r n hr=>by cases hr),(fun g hg=>by cases hg),(fun g i hb=>hs.Ib hb),(fun r r' g n cap sz n' cap' sz' hr=>by simp at hr),(fun g cs hg=>AA.plain hvis (hG g cs hg) (hs.glob g cs hg)),Nat.le_refl _⟩
 refine (hS _ w vs hst (A6.plain hvis hp hargs)).mono ?_
 rintro e w' ⟨c',hx,_,u,rfl,hu⟩
 have hbel:=hx.below
 obtain ⟨x2,st2⟩:=hs.same (w':=w') ⟨hbel.os,hbel.tape,hbel.output,hbel.size,fun k hk _=>hbel.block k hk⟩
 refine ⟨cx,x2,st2,u,rfl,Rp.plain (c:=c'.upto 0 0) (fun g i x hvv=>⟨hvv.1,fun hsh=>hvv.2.1 (.inr (.inr ?_)),hvv.2.2⟩) hv (hf _ _ _ hu)⟩
 show c'.bad g i
 rw [hx.bad]
 exact hsh
def GJ (P:Program) (fn:Func) (m:Nat) (Q:AX→List AV→AS→Prop) (v:AV):Prop:=∀ a s2,Fits 0 0 a v→IX P fn m Q a s2
theorem GJ.body {fn:Func} {m:Nat} {v:AV}:GJ P fn m (Kd P fn m (fun r _=>∃ a,r=.ret a∧Fits 0 0 a v)) v:=fun a _ h=>.body ⟨a,rfl,h⟩
theorem GJ.outer {fn:Func} {m id:Nat} {ks:List KI} {Q:AX→List AV→AS→Prop} {v:AV} (h:GJ P fn m Q v):GJ P fn m (B2 id (BV P G ks Q)) v:=fun a s2 hf=>(h a s2 hf).outer
def JI {δ J:Type} (Q:AX→List AV→AS→Prop) (id:Nat) (F:δ→J→List AV) (S:δ→J→AS) (Ok:J→Prop) (d:δ):Prop:=∀ j,Ok j→Q (.exit id) (F d j) (S d j)
def iD (P:Program) (fn:Func):HR→Option (List Cd×AV)
 | some (.fin .ret,[],cd,fr,s)=>(match Cm P s fn fr with
   | some v=>some (cd,v)
   | none=>none)
 | _=>none
theorem A5 {r:HR} {X:Prop} {Q:AX→List AV→AS→Prop} {v w:AV} (fn:Func) (m:Nat) {l:List (PC P G)} (R:L5 P G l Q r X) (h:iD P fn r=some (Uq l,v)) (k:GJ P fn m Q w) (hf:Fits 0 0 v w):X:=by
 unfold iD at h
 split at h
 · rename_i cd fr' s'
   split at h
   · rename_i v' hv
     simp only [Option.some.injEq,Prod.mk.injEq] at h
     obtain ⟨rfl,rfl⟩:=h
     exact R _ _ _ _ rfl (Hf l) (k _ _ hf _ _ hv rfl)
   · cases h
 · cases h
theorem GJ.I5 {fn:Func} {m:Nat} {L:Code} {s0:AS} {Q:AX→List AV→AS→Prop} {v:AV} (h:GJ P fn m Q v):GJ P fn m (K1 P G L s0 Q) v:=h
def JA {δ ρ β:Type} (k:δ→Option β) (kr:ρ→Option β):δ⊕ρ→Option β
 | .inl d=>k d
 | .inr v=>kr v
def pk:PC P G:=⟨.k,[],trivial⟩
def pb {B b:Bool} (h:B=b):PC P G:=⟨.b b,[.eqb B b],⟨h,trivial⟩⟩
def pn {B b:Bool} (h:B=b):PC P G:=⟨.b (!b),[.eqb (!B) (!b)],⟨by show (!B)=(!b);rw [h],trivial⟩⟩
theorem kH {i:Nat} (h:i < 9223372036854775807):IR .i64 (Xr ((i:Nat):Int) 1)=((i+1:Nat):Int):=by
 rw [Nj,PU]
 have:=WD (i:=i+1) (by omega)
 rw [← this];rfl
def vE (i:Nat) (h:i < 9223372036854775807):PC P G:=⟨.i ((i+1:Nat):Int),[.eqi (IR .i64 (Xr ((i:Nat):Int) 1)) ((i+1:Nat):Int)],⟨kH h,trivial⟩⟩
def Bk {f:FuncId} {args:List AV} {v:AV} (h:Pure P G f args v):PC P G:=⟨.w v,[.pur f args v],⟨h,trivial⟩⟩
def Ek {f:FuncId} {args args2:List AV} {v:AV} (w:Wn args args2) (h:Pure P G f args2 v):PC P G:=⟨.w v,[.pur f args v],⟨fun s cx wd vs hs ha=>h s cx wd vs hs (w.ok ha),trivial⟩⟩
def Em {t:TypeId} {a b v:AV} (h:BD P t a b=some v):PC P G:=⟨.w v,[.idx t a b v],⟨h,trivial⟩⟩
def YJ {t:TypeId} {a b v:AV} (h:Fo P t a b=some v):PC P G:=⟨.w v,[.ix t a b v],⟨h,trivial⟩⟩
def Sf {op:BinOp} {t:TypeId} {x y:Operand} {a b v:AV} (h:GI P op t x y a b=some v):PC P G:=⟨.w v,[.bin op t x y a b v],⟨h,trivial⟩⟩
def R9 {t:TypeId} {a:AV} {l h m:Option AV} {v:AV} (e:Gr P t a l h m=some v):PC P G:=⟨.o v,[.sli t a l h m v],⟨e,trivial⟩⟩
def Bz (a b:Int):Int:=IR .i64 (Xr a b)
def SM (a b:Int):Int:=IR .i64 (bN a b)
def Us (a b:Int):Int:=IR .i64 (a*b)
def UY {α:Type} (l:List α) (z:Int):Option α:=if 0≤z then l[z.toNat]? else none
structure GL {α:Type} (f:α→List AV) (C:List α→List AV) (k:Nat):Prop where
 eq:∀ l,C l=rows f l
 len:∀ x,(f x).length=k
 pl:∀ x,AL (f x)=true
theorem GL.LW {α:Type} {f:α→List AV} {C:List α→List AV} {k:Nat} (h:GL f C k) (l m:List α):C (l++m)=C l++C m:=by rw [h.eq,h.eq,h.eq,GN]
theorem GL.cons {α:Type} {f:α→List AV} {C:List α→List AV} {k:Nat} (h:GL f C k) (x:α) (m:List α):C (x::m)=f x++C m:=by rw [h.eq,h.eq,Dm]
theorem GL.BI {α:Type} {f:α→List AV} {C:List α→List AV} {k:Nat} (h:GL f C k) (l:List α):AL (C l)=true:=by rw [h.eq];exact Sh fun x _=>h.pl x
theorem GL.DH {α:Type} {f:α→List AV} {C:List α→List AV} {k:Nat} (h:GL f C k) (l:List α):plain (.sl .lost l.length (C l))=true:=by simp only [plain,h.BI];rfl
theorem GL.Lc {α:Type} {f:α→List AV} {C:List α→List AV} {k:Nat} (h:GL f C k) (x:α):plain (.agg (f x))=true:=h.pl x
theorem GL.ix {α:Type} {f:α→List AV} {C:List α→List AV} {k:Nat} (h:GL f C k) {t elem:TypeId} (hu:P.underlying t=some (.slice elem)) (hs:(P.info? elem).map (·.size)=some k) (own:Own) {l:List α} {i:Nat} {x:α} (hx:l[i]?=some x):BD P t (.sl own l.length (C l)) (.sc (.int .i64 ((i:Nat):Int)))=some (.el (f x++C (l.drop (i+1)))):=by
 cases hi:P.info? elem with
 | none=>rw [hi] at hs;cases hs
 | some e =>
   rw [hi] at hs
   rw [h.eq,h.eq]
   exact R8 hu hi (by simpa using hs) h.len hx
theorem GL.zE {α:Type} {f:α→List AV} {C:List α→List AV} {k:Nat} (h:GL f C k) {t elem:TypeId} (hu:P.underlying t=some (.slice elem)) (hs:(P.info? elem).map (·.size)=some k) (own:Own) {l:List α} {z:Int} {x:α} (hx:UY l z=some x):BD P t (.sl own l.length (C l)) (.sc (.int .i64 z))=some (.el (f x++C (l.drop (z.toNat+1)))):=by
 unfold UY at hx
 split at hx
 · rename_i hz
   have:=h.ix hu hs own hx
   rwa [Int.toNat_of_nonneg hz] at this
 · cases hx
theorem GL.wn {α:Type} {f:α→List AV} {C:List α→List AV} {k:Nat} (h:GL f C k) (m:List α) {a:List AV} (w:Wn a (rows f m)):Wn a (C m):=by rw [h.eq];exact w
theorem LM {α:Type} {f:α→List AV} {k:Nat} (hf:∀ x,(f x).length=k) (l:List α) (i:Nat):(rows f l).drop (i*k)=rows f (l.drop i):=by
 induction l generalizing i with
 | nil=>simp [rows]
 | cons x l ih =>
   cases i with
   | zero=>simp
   | succ i =>
     rw [Dm,List.drop_append,hf x,List.drop_eq_nil_of_le (by rw [hf x,Nat.add_mul];omega),List.nil_append,List.drop_succ_cons,← ih i]
     congr 1
     rw [Nat.add_mul];omega
theorem LL {α:Type} {f:α→List AV} {k:Nat} (hf:∀ x,(f x).length=k) (l:List α) (i:Nat):(rows f l).take (i*k)=rows f (l.take i):=by
 induction l generalizing i with
 | nil=>simp [rows]
 | cons x l ih =>
   cases i with
   | zero=>simp [rows]
   | succ i =>
     rw [Dm,List.take_append,hf x,List.take_of_length_le (by rw [hf x,Nat.add_mul];omega),List.take_succ_cons,Dm,← ih i]
     congr 2
     rw [Nat.add_mul];omega
theorem GL.sub {α:Type} {f:α→List AV} {C:List α→List AV} {k:Nat} (h:GL f C k) {t elem:TypeId} (hu:P.underlying t=some (.slice elem)) (hs:(P.info? elem).map (·.size)=some k) (l q:Nat) {s:List α} (h1:l≤q) (h2:q≤s.length) (lo hi:Option AV) (e1:He 0 lo=some l) (e2:He s.length hi=some q) :
   Gr P t (.sl .lost s.length (C s)) lo hi none=some (.sl .lost ((s.drop l).take (q - l)).length (C ((s.drop l).take (q - l)))):=by
 cases hi':P.info? elem with
 | none=>rw [hi'] at hs;cases hs
 | some e =>
   rw [hi'] at hs
   have hk:e.size=k:=by simpa using hs
   unfold Gr
   simp only [hu,hi',e1,e2,hk]
   rw [if_pos ⟨h1,h2,by rw [h.eq,DF h.len]⟩]
   have e3:(if l=0∧q=s.length then Own.lost else if q=s.length∧Own.lost=.full then .full else .lost)=.lost:=by
     split
     · rfl
     · split
       · rename_i hq;exact absurd hq.2 (by decide)
       · rfl
   rw [e3,h.eq,h.eq,LM h.len,LL h.len]
   congr 2
   simp;omega
noncomputable def b6 {β:Type} (f:Nat→Option β):Option β:=open Classical in if h:∃ y,∃ n0:Nat,∀ n,n0≤n→f n=some y then some (Classical.choose h) else none
theorem cO {β:Type} {f:Nat→Option β} {y:β} (h:b6 f=some y):∃ n,f n=some y:=by
 unfold b6 at h
 split at h
 · rename_i hx
   obtain ⟨n0,hn⟩:=Classical.choose_spec hx
   rw [Option.some.inj h] at hn
   exact ⟨n0,hn n0 (Nat.le_refl _)⟩
 · cases h
theorem RZ {β:Type} {f:Nat→Option β} {y:β} (n0:Nat) (h:∀ n,n0≤n→f n=some y):b6 f=some y:=by
 unfold b6
 have hx:∃ y,∃ n0:Nat,∀ n,n0≤n→f n=some y:=⟨y,n0,h⟩
 rw [dif_pos hx]
 obtain ⟨n1,hn⟩:=Classical.choose_spec hx
 have h1:=h (max n0 n1) (Nat.le_max_left _ _)
 have h2:=hn (max n0 n1) (Nat.le_max_right _ _)
 rw [h1] at h2
 rw [Option.some.inj h2]
def R5 {β:Type} (n:Nat) (x:Option β):Option β:=if n≤100000000 then x else none
theorem dP {β:Type} {n:Nat} {x:Option β} {r:β} (h:R5 n x=some r):n≤100000000∧x=some r:=by
 unfold R5 at h
 split at h
 · rename_i h1;exact ⟨h1,h⟩
 · cases h
theorem GL.XC {α:Type} {f:α→List AV} {C:List α→List AV} {k:Nat} (h:GL f C k) {t tx e e2 by':Nat} (hu:P.underlying t=some (.slice e)) (hux:P.underlying tx=some (.slice e2)) (hi:(P.info? e).map (fun i=>(i.size,i.bytes,i.zero.map (·.cells.size)))=some (k,by',some k)) (hk:0 < k) (hb:by'≤10000)
   (own:Own) (l m:List α) {o:Own} {n:Nat} {ns:List AV} (hn:Wn ns (C m)) (hnn:n=m.length) (ho:ns.all one=true) (hm:m.length≠0) (hlen:l.length+m.length≤100000000):Cd.ok P G (.XC t tx own l.length (C l) (.sl o n ns) k (l++m).length (C (l++m))):=by
 subst hnn
 cases hq:P.info? e with
 | none=>rw [hq] at hi;cases hi
 | some i =>
   rw [hq] at hi
   simp only [Option.map_some,Option.some.injEq,Prod.mk.injEq] at hi
   obtain ⟨h1,h2,h3⟩:=hi
   cases hz:i.zero with
   | none=>rw [hz] at h3;cases h3
   | some z =>
     rw [hz] at h3
     simp only [Option.map_some,Option.some.injEq] at h3
     intro s hown
     have hnl:ns.length=m.length*k:=by rw [hn.len,h.eq,DF h.len]
     have hll:(C l).length=l.length*k:=by rw [h.eq,DF h.len]
     refine ⟨C l++ns,?_,fun c w u o' hr=>?_⟩
     · have hs:LZ P s i.size tx (.sl o m.length ns)=some (m.length,ns):=by
         unfold LZ
         rw [hux,h1]
         simp only [hnl,if_true]
       unfold Fy
       simp only [hu,hq,hz]
       rw [if_pos ⟨by rw [h3,h1],by omega⟩,hs]
       simp only
       have hbb:(l.length+m.length)*i.bytes≤140737488355328:=by
         rw [h2]
         exact Nat.le_trans (Nat.mul_le_mul hlen hb) (by decide)
       rw [if_pos ⟨by rw [hll,h1],ho,hbb,by omega⟩,if_neg hm,h1,if_pos hown,List.length_append]
     · rw [h.LW]
       exact Rp.wY (Wn.LW (Wn.refl (C l)) hn) hr
def lU {t tx:TypeId} {own:Own} {n:Nat} {cs:List AV} {b:AV} {sz k:Nat} {cs2:List AV} (h:Cd.ok P G (.XC t tx own n cs b sz k cs2)):PC P G :=
 match own with
 | .row r z=>⟨.g sz k cs2,[.XC t tx (.row r z) n cs b sz k cs2,.eqn n n],⟨h,rfl,trivial⟩⟩
 | .full=>⟨.g sz k cs2,[.XC t tx .full n cs b sz k cs2],⟨h,trivial⟩⟩
 | _=>⟨.g sz k cs2,[],trivial⟩
theorem BI {a:AV} {l:List AV} (h:plain a=true) (t:AL l=true):AL (a::l)=true:=by simp only [AL,h,t];rfl
theorem dB {a b:List AV} (ha:AL a=true) (hb:AL b=true):AL (a++b)=true:=by
 induction a with
 | nil=>exact hb
 | cons x a ih =>
   simp only [AL,Bool.and_eq_true,List.cons_append] at ha ⊢
   exact ⟨ha.1,ih ha.2⟩
theorem nP {n m:Nat} {a:AV} {l:List AV} (h:under n m a=true) (t:B3 n m l=true):B3 n m (a::l)=true:=by simp only [B3,h,t];rfl
end
end AI
namespace AI
open Go Go.RowKit
theorem Eb {P:Program} {α β:Type} (m:Sem α) (f:α→Sem β):pv P (m >>= f)=(pv P m).bind fun a=>pv P (f a):=by
 show pv P (m.bind f)=_
 induction m with
 | pure a=>rfl
 | program k ih=>exact ih P
 | mark _ k ih=>exact ih
 | _=>rfl
theorem F9 {P:Program} {α:Type} (a:α):pv P (pure a:Sem α)=some a:=rfl
theorem J3 {P:Program}:pv P program=some P:=rfl
theorem Eo {P:Program} {t:TypeId} {d:TypeDesc} (h:P.underlying t=some d):pv P (underlying t)=some d:=by
 unfold underlying
 rw [Eb,J3]
 simp only [Option.bind_some,h]
 rfl
theorem mJ {P:Program} {α:Type} (c:Prop) [Decidable c] (a b:Sem α):pv P (if c then a else b)=if c then pv P a else pv P b:=by split<;>rfl
theorem Kz {P:Program} (d:Nat) (t:TypeId) (xs ys:Array Value) (ht:P.underlying t=some (.struct (P.fieldsOf t))) (hp:P.stoodInHeld t=false) :
   pv P (Op.equalIn (d+1) t (.agg xs) (.agg ys))=pv P (Op.eqFields d xs ys (P.fieldsOf t).toList):=by
 simp only [Op.equalIn,Eb,Eo ht,Option.bind_some,J3,hp,Bool.false_eq_true,if_false]
 rw [← Array.forIn_toList]
 generalize (P.fieldsOf t).toList=fs
 clear ht
 induction fs with
 | nil=>simp [Op.eqFields,F9]
 | cons f fs ih =>
   simp only [List.forIn_cons,Op.eqFields,Eb,mJ]
   split
   · generalize pv P (part f.type xs f.offset)=r1
     cases r1 with
     | none=>simp
     | some a =>
       simp only [Option.bind_some]
       generalize pv P (part f.type ys f.offset)=r2
       cases r2 with
       | none=>simp
       | some b =>
         simp only [Option.bind_some]
         generalize pv P (Op.equalIn d f.type a b)=r3
         cases r3 with
         | none=>simp
         | some r =>
           cases r
           · simp [F9]
           · simp only [Option.bind_some,Bool.not_true,Bool.false_eq_true,if_false,F9]
             exact ih
   · simp only [F9,Option.bind_some]
     exact ih
theorem aC {P:Program} {t:TypeId} {k:IntKind} (h:P.underlying t=some (.int k)) (cs:Array Value) (off:Nat) {v:Value} (hv:cs[off]?=some v):pv P (part t cs off)=some v:=by
 unfold part isAgg
 simp [Eb,Eo h,F9,hv]
theorem NI {P:Program} (d:Nat) {t:TypeId} {k k':IntKind} (a b:Int) (h:P.underlying t=some (.int k')):pv P (Op.equalIn (d+1) t (.int k a) (.int k b))=some (a == b):=by
 simp [Op.equalIn,Eb,Eo h,F9]
theorem QR {P:Program} (op:BinOp) (t:TypeId) (x y:Operand) (xs ys:Array Value) (hm:P.eqGuardType P.depth t=false):pv P (eqGuard op t x y (.agg xs) (.agg ys))=some ():=by
 cases op<;>simp [eqGuard,Eb,J3,hm,F9]
def ID (P:Program) (t:TypeId):Nat:=match P.underlying t with
 | some (.int _)=>1
 | some .string=>2
 | _=>0
def iH:Value→Value→Option Bool
 | .int k a,.int k' b=>if k=k' then some (a == b) else none
 | .string a,.string b=>some (a == b)
 | _,_=>none
def N2:List Value→List Value→Option Bool
 | [],[]=>some true
 | a::as,b::bs=>(iH a b).bind fun r=>(match r with | true=>N2 as bs | false=>some false)
 | _,_=>none
theorem Q4 {P:Program} {t:TypeId} (h:ID P t≠0) (cs:Array Value) (off:Nat) {v:Value} (hv:cs[off]?=some v):pv P (part t cs off)=some v:=by
 unfold ID at h
 split at h
 · rename_i h1;exact aC h1 cs off hv
 · rename_i h1
   unfold part isAgg
   simp [Eb,Eo h1,F9,hv]
 · exact absurd rfl h
theorem j6 {P:Program} (d:Nat) {t:TypeId} {a b:Value} {r:Bool} (hk:(∃ k n m,a=.int k n∧b=.int k m∧ID P t=1)∨(∃ x y,a=.string x∧b=.string y∧ID P t=2)) (h:iH a b=some r):pv P (Op.equalIn (d+1) t a b)=some r:=by
 rcases hk with ⟨k,n,m,rfl,rfl,hk⟩ | ⟨x,y,rfl,rfl,hk⟩
 · unfold ID at hk
   split at hk
   · rename_i h1
     simp only [iH,if_true] at h
     rw [NI d n m h1];exact h
   · cases hk
   · cases hk
 · unfold ID at hk
   split at hk
   · cases hk
   · rename_i h1
     simp only [iH] at h
     rw [← h]
     simp [Op.equalIn,Eb,Eo h1,F9]
   · cases hk
def Qm:List Nat→List Value→Prop
 | [],[]=>True
 | k::ks,v::vs=>((∃ n,v=.int .i64 n∧k=1)∨(∃ x,v=.string x∧k=2))∧Qm ks vs
 | _,_=>False
theorem UN {P:Program} (d:Nat):∀ (fs:List Field) (off:Nat) (ks:List Nat) (xs ys:List Value) (us vs:List Value) (r:Bool),fs.map (fun f=>ID P f.type)=ks→(∀ (i:Nat) f,fs[i]?=some f→f.name≠"_"∧f.offset=off+i)→xs.drop off=us→ys.drop off=vs→Qm ks us→Qm ks vs→N2 us vs=some r→pv P (Op.eqFields (d+1) xs.toArray ys.toArray fs)=some r:=by
 intro fs
 induction fs with
 | nil =>
   intro off ks xs ys us vs r hks _ hx hy h1 h2 h
   cases ks with
   | cons=>cases hks
   | nil =>
     cases us<;>cases vs<;>simp only [Qm,N2] at h1 h2 h
     rw [← h];rfl
 | cons f fs ih =>
   intro off ks xs ys us vs r hks hf hx hy h1 h2 h
   cases ks with
   | nil=>cases hks
   | cons k ks =>
     cases us with
     | nil=>cases h1
     | cons u us =>
       cases vs with
       | nil=>cases h2
       | cons v vs =>
         simp only [List.map_cons,List.cons.injEq] at hks
         obtain ⟨hk,hks⟩:=hks
         obtain ⟨hn,ho⟩:=hf 0 f rfl
         rw [Nat.add_zero] at ho
         have hxu:xs.toArray[off]?=some u:=by rw [List.getElem?_toArray,← List.head?_drop,hx];rfl
         have hyv:ys.toArray[off]?=some v:=by rw [List.getElem?_toArray,← List.head?_drop,hy];rfl
         have hk0:ID P f.type≠0:=by
           rw [hk]
           rcases h1.1 with ⟨_,_,e⟩ | ⟨_,_,e⟩<;>omega
         have hkk:(∃ k n m,u=.int k n∧v=.int k m∧ID P f.type=1)∨(∃ x y,u=.string x∧v=.string y∧ID P f.type=2):=by
           rw [hk]
           rcases h1.1 with ⟨n,e1,e2⟩ | ⟨n,e1,e2⟩<;>rcases h2.1 with ⟨m,e3,e4⟩ | ⟨m,e3,e4⟩
           · exact .inl ⟨_,n,m,e1,e3,e2⟩
           · omega
           · omega
           · exact .inr ⟨n,m,e1,e3,e2⟩
         simp only [N2] at h
         cases hq:iH u v with
         | none=>rw [hq] at h;cases h
         | some q =>
           rw [hq] at h
           simp only [Op.eqFields,hn,ne_eq,not_false_eq_true,if_true,ho]
           simp only [Eb,Q4 hk0 xs.toArray off hxu,Q4 hk0 ys.toArray off hyv,Option.bind_some,j6 d hkk hq]
           cases q with
           | false =>
             have:r=false:=by simpa using h.symm
             subst this;rfl
           | true =>
             have ih:=ih (off+1) ks xs ys us vs r hks (fun i f' hi=>by
               have:=hf (i+1) f' (by simpa using hi)
               exact ⟨this.1,by rw [this.2];omega⟩) (by rw [← List.tail_drop,hx];rfl) (by rw [← List.tail_drop,hy];rfl) h1.2 h2.2 (by simpa using h)
             simpa using ih
structure Flat (P:Program) (t:TypeId) (ks:List Nat):Prop where
 st:P.underlying t=some (.struct (P.fieldsOf t))
 hp:P.stoodInHeld t=false
 hm:P.eqGuardType P.depth t=false
 kd:(P.fieldsOf t).toList.map (fun f=>ID P f.type)=ks
 nm:(P.fieldsOf t).toList.map (fun f=>decide (f.name≠"_"))=List.replicate ks.length true
 of:(P.fieldsOf t).toList.map (fun f=>f.offset)=List.range ks.length
theorem Vo (vs:List Value):GX (vs.map .sc)=some vs:=by
 induction vs with
 | nil=>rfl
 | cons v vs ih=>simp [GX,Il,ih]
theorem Flat.pv {P:Program} {t:TypeId} {ks:List Nat} (h:Flat P t ks) {us vs:List Value} {r:Bool} (h1:Qm ks us) (h2:Qm ks vs) (h3:N2 us vs=some r):AI.pv P (Op.equalIn (9998+1+1) t (.agg us.toArray) (.agg vs.toArray))=some r:=by
 rw [Kz _ _ _ _ h.st h.hp]
 refine UN 9998 _ 0 ks us vs us vs r h.kd (fun i f hf=>?_) rfl rfl h1 h2 h3
 have hl:i < ks.length:=by
   have:=(List.getElem?_eq_some_iff.1 hf).1
   have h5:=congrArg List.length h.kd
   simp at h5 this
   omega
 have a1:=congrArg (fun l=>l[i]?) h.nm
 have a2:=congrArg (fun l=>l[i]?) h.of
 simp only [List.getElem?_map,hf,Option.map_some,List.getElem?_replicate,hl,if_true,Option.some.injEq,decide_eq_true_eq] at a1
 simp only [List.getElem?_map,hf,Option.map_some,List.getElem?_range hl,Option.some.injEq] at a2
 exact ⟨a1,by omega⟩
theorem Flat.bin {P:Program} {t:TypeId} {ks:List Nat} (h:Flat P t ks) {us vs:List Value} {r:Bool} (h1:Qm ks us) (h2:Qm ks vs) (h3:N2 us vs=some r) (x y:Operand) :
   GI P .eql t x y (.agg (us.map .sc)) (.agg (vs.map .sc))=some (.sc (.bool r))∧GI P .neq t x y (.agg (us.map .sc)) (.agg (vs.map .sc))=some (.sc (.bool (!r))):=by
 have ht:∀ l:List Value,Lz (.agg (l.map .sc))=some (.agg l.toArray):=fun l=>by simp only [Lz,Vo,Option.map_some]
 have hv:=h.pv h1 h2 h3
 have e1:AI.pv P (do eqGuard .eql t x y (.agg us.toArray) (.agg vs.toArray);binOp .eql t (.agg us.toArray) (.agg vs.toArray))=some (.bool r):=by
   rw [Eb,QR _ _ _ _ _ _ h.hm]
   simp only [Option.bind_some,binOp,Eb,Op.equal,Op.maxDepth]
   rw [show (10000:Nat)=9998+1+1 from rfl,hv]
   rfl
 have e2:AI.pv P (do eqGuard .neq t x y (.agg us.toArray) (.agg vs.toArray);binOp .neq t (.agg us.toArray) (.agg vs.toArray))=some (.bool (!r)):=by
   rw [Eb,QR _ _ _ _ _ _ h.hm]
   simp only [Option.bind_some,binOp,Eb,Op.equal,Op.maxDepth]
   rw [show (10000:Nat)=9998+1+1 from rfl,hv]
   rfl
 refine ⟨?_,?_⟩
 · show Kn _ _ _ _ _ (.agg _) (.agg _)=_
   unfold Kn
   simp only [ht,e1,Option.bind_some];rfl
 · show Kn _ _ _ _ _ (.agg _) (.agg _)=_
   unfold Kn
   simp only [ht,e2,Option.bind_some];rfl
end AI
namespace AI
open Go Go.RowKit
mutual
inductive Rn (k j:Nat) (ρ σ:Nat→Nat):AV→AV→Prop where
 | pl {a:AV} (h:plain a=true):Rn k j ρ σ a a
 | ptr {i off:Nat} (h:i < k):Rn k j ρ σ (.ptr i off) (.ptr (ρ i) off)
 | mp {i:Nat} (h:i < k):Rn k j ρ σ (.mp i) (.mp (ρ i))
 | msl {i off n:Nat} (h:i < k):Rn k j ρ σ (.msl i off n) (.msl (ρ i) off n)
 | row {r sz n:Nat} {cs:List AV} (h:r < j) (hp:AL cs=true):Rn k j ρ σ (.sl (.row r sz) n cs) (.sl (.row (σ r) sz) n cs)
 | agg {cs ds:List AV} (h:J7 k j ρ σ cs ds):Rn k j ρ σ (.agg cs) (.agg ds)
 | Bc {cs ds:List AV} (h:J7 k j ρ σ cs ds):Rn k j ρ σ (.Bc cs) (.Bc ds)
 | fn {f:Fn} {a a' b b':List AV} (h1:J7 k j ρ σ a a') (h2:J7 k j ρ σ b b'):Rn k j ρ σ (.fn f a b) (.fn f a' b')
inductive J7 (k j:Nat) (ρ σ:Nat→Nat):List AV→List AV→Prop where
 | nil:J7 k j ρ σ [] []
 | cons {a b:AV} {l m:List AV} (h:Rn k j ρ σ a b) (t:J7 k j ρ σ l m):J7 k j ρ σ (a::l) (b::m)
end
inductive Ue (k j:Nat) (ρ σ:Nat→Nat):Ap→Ap→Prop where
 | cells {cs ds:List AV} (h:J7 k j ρ σ cs ds):Ue k j ρ σ (.cells cs) (.cells ds)
 | map {es:List (Value×AV×Nat)} {cl:Nat} (h:∀ e∈es,plain e.2.1=true):Ue k j ρ σ (.map es cl) (.map es cl)
theorem J7.pl {k j:Nat} {ρ σ:Nat→Nat}:∀ {l:List AV},AL l=true→J7 k j ρ σ l l
 | [],_=>.nil
 | a::l,h=>by
   simp only [AL,Bool.and_eq_true] at h
   exact .cons (.pl h.1) (J7.pl h.2)
section
variable {c c':Cx} {w w':World} {k j:Nat} {ρ σ:Nat→Nat}
structure Dn (k j:Nat) (ρ σ:Nat→Nat) (c:Cx) (w:World) (c0:Cx) (w0:World):Prop where
 vis:∀ g i v,EM c w g i v→EM c0 w0 g i v
 Bf:∀ i g,i < k→c.Bf[ρ i]?=some (some g)→c0.Bf[i]?=some (some g)
 rows:∀ r,r < j→∃ x,c.rows[σ r]?=some x∧c0.rows[r]?=some x
structure Up (k j:Nat) (ρ σ:Nat→Nat) (c0:Cx) (w0:World) (c:Cx) (w:World):Prop where
 vis:∀ g i v,EM c0 w0 g i v→EM c w g i v
 Bf:∀ i g,i < k→c0.Bf[i]?=some (some g)→c.Bf[ρ i]?=some (some g)
 rows:∀ r,r < j→∃ x,c.rows[σ r]?=some x∧c0.rows[r]?=some x
mutual
theorem Rn.down (d:Dn k j ρ σ c w c' w'):∀ {a b:AV} {v:Value},Rn k j ρ σ a b→Rp c w b v→Rp c' w' a v:=by
 intro a b v hn h
 cases hn with
 | pl hp=>exact h.plain d.vis hp
 | ptr hi=>cases h with | ptr h1=>exact .ptr (d.Bf _ _ hi h1)
 | mp hi=>cases h with | mp h1=>exact .mp (d.Bf _ _ hi h1)
 | msl hi=>cases h with | msl hn h1=>exact .msl hn (d.Bf _ _ hi h1)
 | @row r sz n cs hr hp =>
   obtain ⟨x,hx,hx0⟩:=d.rows r hr
   have hl:=(List.getElem?_eq_some_iff.1 hx0).1
   cases h with
   | sl0 h0=>exact .sl0 ⟨h0.1,hl⟩
   | sl1 hn hc ho =>
     refine .sl1 hn (hc.plain d.vis hp) ⟨ho.1,ho.2.1,hl,fun e=>ho.2.2.2.1 ?_,fun g' n' cap' sz' e=>ho.2.2.2.2 g' n' cap' sz' ?_⟩
     · rw [hx,← hx0];exact e
     · rw [hx,← hx0];exact e
 | agg h1=>cases h with | agg h2=>exact .agg (J7.down d h1 h2)
 | Bc h1=>cases h with | Bc h2=>exact .Bc (J7.down d h1 h2)
 | fn h1 h2=>cases h with | fn h3 h4=>exact .fn (J7.down d h1 h3) (J7.down d h2 h4)
theorem J7.down (d:Dn k j ρ σ c w c' w'):∀ {a b:List AV} {v:List Value},J7 k j ρ σ a b→A6 c w b v→A6 c' w' a v:=by
 intro a b v hn h
 cases hn with
 | nil=>cases h;exact .nil
 | cons h1 t=>cases h with | cons h2 t2=>exact .cons (Rn.down d h1 h2) (J7.down d t t2)
end
mutual
theorem Rn.up (d:Up k j ρ σ c w c' w'):∀ {a b:AV} {v:Value},Rn k j ρ σ a b→Rp c w a v→Rp c' w' b v:=by
 intro a b v hn h
 cases hn with
 | pl hp=>exact h.plain d.vis hp
 | ptr hi=>cases h with | ptr h1=>exact .ptr (d.Bf _ _ hi h1)
 | mp hi=>cases h with | mp h1=>exact .mp (d.Bf _ _ hi h1)
 | msl hi=>cases h with | msl hn h1=>exact .msl hn (d.Bf _ _ hi h1)
 | @row r sz n cs hr hp =>
   obtain ⟨x,hx,hx0⟩:=d.rows r hr
   have hl:=(List.getElem?_eq_some_iff.1 hx).1
   cases h with
   | sl0 h0=>exact .sl0 ⟨h0.1,hl⟩
   | sl1 hn hc ho =>
     refine .sl1 hn (hc.plain d.vis hp) ⟨ho.1,ho.2.1,hl,fun e=>ho.2.2.2.1 ?_,fun g' n' cap' sz' e=>ho.2.2.2.2 g' n' cap' sz' ?_⟩
     · rw [hx0,← hx];exact e
     · rw [hx0,← hx];exact e
 | agg h1=>cases h with | agg h2=>exact .agg (J7.up d h1 h2)
 | Bc h1=>cases h with | Bc h2=>exact .Bc (J7.up d h1 h2)
 | fn h1 h2=>cases h with | fn h3 h4=>exact .fn (J7.up d h1 h3) (J7.up d h2 h4)
theorem J7.up (d:Up k j ρ σ c w c' w'):∀ {a b:List AV} {v:List Value},J7 k j ρ σ a b→A6 c w a v→A6 c' w' b v:=by
 intro a b v hn h
 cases hn with
 | nil=>cases h;exact .nil
 | cons h1 t=>cases h with | cons h2 t2=>exact .cons (Rn.up d h1 h2) (J7.up d t t2)
end
theorem EE.plain (hv:∀ g i v,EM c w g i v→EM c' w' g i v):∀ {es:List (Value×AV×Nat)} {fs:List MapEntry},(∀ e∈es,AI.plain e.2.1=true)→EE c w es fs→EE c' w' es fs:=by
 intro es
 induction es with
 | nil=>intro fs _ h;cases h;exact .nil
 | cons e es ih =>
   intro fs hp h
   cases h with | cons h1 t=>exact .cons (h1.plain hv (hp _ List.mem_cons_self)) (ih (fun x hx=>hp x (List.mem_cons_of_mem _ hx)) t)
theorem Ue.down (d:Dn k j ρ σ c w c' w') {a b:Ap} {o:Obj} (hn:Ue k j ρ σ a b) (h:B1 c w b o):B1 c' w' a o:=by
 cases hn with
 | cells h1=>cases h with | cellsX ext h2=>exact .cellsX ext (J7.down d h1 h2)
 | map hp=>cases h with | map h2=>exact .map (h2.plain d.vis hp)
theorem Ue.up (d:Up k j ρ σ c w c' w') {a b:Ap} {o:Obj} (hn:Ue k j ρ σ a b) (h:B1 c w a o):B1 c' w' b o:=by
 cases hn with
 | cells h1=>cases h with | cellsX ext h2=>exact .cellsX ext (J7.up d h1 h2)
 | map hp=>cases h with | map h2=>exact .map (h2.plain d.vis hp)
end
structure Upd (k j:Nat) (ρ σ:Nat→Nat) (h2:List (Nat×Ap)) (F2:List (Nat×Nat)) (s s2:AS):Prop where
 nx:s2.nx=s.nx
 nr:s2.nr=s.nr
 desc:∀ n,DY s.h n→DY s2.h n
 get:∀ id b,s2.get id=some b→(∃ i b0,i < k∧id=ρ i∧look i h2=some b0∧Ue k j ρ σ b0 b)∨((∀ i,i < k→id≠ρ i)∧s.get id=some b)
 tok:∀ q n,BJ q s2.F=some n→(∃ r,r < j∧q=σ r∧BJ r F2=some n)∨((∀ r,r < j→q≠σ r)∧BJ q s.F=some n)
def yE (k j:Nat) (ρ σ:Nat→Nat):CR→CR→Prop
 | .ret v,.ret v'=>Rn k j ρ σ v v'
 | .pan v,.pan v'=>Rn k j ρ σ v v'
 | _,_=>False
theorem jA {P:Program} {G:AB} (hG:∀ g cs,G g=some cs→AL cs=true) {f:FuncId} {args args':List AV} {r r':CR} {hm h2:List (Nat×Ap)} {k j:Nat} {Fm F2:List (Nat×Nat)} (h:Sound P G (.call f args ⟨hm,k,Fm,j⟩ r ⟨h2,k,F2,j⟩)) (hd:DY hm k)
   (ρ σ:Nat→Nat) (hinj:∀ i i',i < k→i' < k→ρ i=ρ i'→i=i') (hsinj:∀ i i',i < j→i' < j→σ i=σ i'→i=i') (hargs:J7 k j ρ σ args args')
   {s s2:AS} (hget:∀ i b,i < k→look i hm=some b→∃ b',s.get (ρ i)=some b'∧Ue k j ρ σ b b')
   (hphi:∀ cx w vs,St G cx w s→A6 cx w args' vs→∀ i,i < k→∃ g,cx.Bf[ρ i]?=some (some g))
   (htok:∀ q n,q < j→BJ q Fm=some n→BJ (σ q) s.F=some n) (htall:∀ q,q < j→∃ n,BJ q Fm=some n) (hFm:∀ q n,BJ q Fm=some n→q < j)
   (hr:yE k j ρ σ r r')
   (hu:Upd k j ρ σ h2 F2 s s2):Sound P G (.call f args' s r' s2):=by
 intro cx w vs hs ha
 have hph:=hphi cx w vs hs ha
 have hg:∀ i:Nat,∃ g,i < k→cx.Bf[ρ i]?=some (some g):=fun i=>by
   by_cases hi:i < k
   · obtain ⟨g,hg⟩:=hph i hi;exact ⟨g,fun _=>hg⟩
   · exact ⟨0,fun h=>absurd h hi⟩
 obtain ⟨gs,hgs⟩:=Classical.axiomOfChoice hg
 have hrw:∀ q:Nat,∃ x,q < j→cx.rows[σ q]?=some x:=fun q=>by
   by_cases hq:q < j
   · obtain ⟨n,hn⟩:=htall q hq
     rcases hs.rfree _ _ (htok q n hq hn) with ⟨h1,_⟩ | ⟨g,cap,sz,h1⟩
     · exact ⟨_,fun _=>h1⟩
     · exact ⟨_,fun _=>h1⟩
   · exact ⟨.gone,fun h=>absurd h hq⟩
 obtain ⟨rw,hrw⟩:=Classical.axiomOfChoice hrw
 have hmem:∀ i,i < k→some (gs i)∈cx.Bf:=fun i hi=>List.mem_of_getElem? (hgs i hi)
 have hgi:∀ i i',i < k→i' < k→gs i=gs i'→i=i':=fun i i' hi hi' e=>hinj i i' hi hi' (hs.nodup _ _ _ (hgs i hi) (by rw [e];exact hgs i' hi'))
 let K:Nat→Prop:=fun q=>(∃ i,i < k∧q=gs i)∨∃ r n cap sz,r < j∧cx.rows[σ r]?=some (.blk q n cap sz)
 let c0:Cx:=⟨0,(List.range k).map fun i=>some (gs i),(List.range j).map rw,fun q i=>¬ K q∧cx.LA q i⟩
 have hphi0:∀ (i g:Nat),c0.Bf[i]?=some (some g)↔i < k∧g=gs i:=by
   intro i g
   show ((List.range k).map fun i=>some (gs i))[i]?=some (some g)↔_
   rw [List.getElem?_map]
   by_cases hi:i < k
   · rw [List.getElem?_range hi];simp [hi,eq_comm]
   · rw [List.getElem?_eq_none (by simp;omega)];simp [hi]
 have hmem0:∀ g,some g∈c0.Bf→∃ i,i < k∧g=gs i:=by
   intro g hg'
   obtain ⟨i,hi,e⟩:=List.mem_map.1 hg'
   exact ⟨i,List.mem_range.1 hi,(Option.some.inj e).symm⟩
 have hrow0:∀ (q:Nat) x,c0.rows[q]?=some x→q < j∧cx.rows[σ q]?=some x:=by
   intro q x hx
   have hx:((List.range j).map rw)[q]?=some x:=hx
   have hl:=(List.getElem?_eq_some_iff.1 hx).1
   simp at hl
   rw [List.getElem?_map,List.getElem?_range hl] at hx
   simp at hx
   subst hx
   exact ⟨hl,hrw q hl⟩
 have hrow0':∀ q,q < j→c0.rows[q]?=some (rw q):=by
   intro q hq
   show ((List.range j).map rw)[q]?=some (rw q)
   rw [List.getElem?_map,List.getElem?_range hq];rfl
 have hrlen0:c0.rows.length=j:=by show ((List.range j).map rw).length=j;simp
 have hvis:∀ g i x,EM cx w g i x→EM c0 w g i x:=by
   intro g i x hx
   refine ⟨hx.1,fun hsh=>?_,hx.2.2⟩
   rcases hsh with hsh | ⟨r,n,cap,sz,hr,h1,h2⟩ | hsh
   · obtain ⟨i',hi',rfl⟩:=hmem0 g hsh
     exact hx.2.1 (.inl (hmem i' hi'))
   · exact hx.2.1 (.inr (.inl ⟨σ r,n,cap,sz,(hrow0 _ _ hr).2,h1,h2⟩))
   · exact hx.2.1 hsh.2
 have hdn:Dn k j ρ σ cx w c0 w:=⟨hvis,fun i g hi hg'=>by
   rw [hphi0]
   rw [hgs i hi] at hg'
   cases hg'
   exact ⟨hi,rfl⟩,fun q hq=>⟨rw q,hrw q hq,hrow0' q hq⟩⟩
 have hst:St G c0 w ⟨hm,k,Fm,j⟩:=by
   refine ⟨by simp [c0],hd,fun i i' g h1 h2=>?_,fun g _=>Nat.zero_le _,fun id g b h1 h2=>?_,hrlen0.symm,fun q g n cap sz hq=>?_,fun q n hq=>?_,fun g hg'=>?_,(fun q i hb=>hs.Ib hb.2),fun q q' g n cap sz n' cap' sz' h1 h2=>?_,(fun g cs hg'=>AA.plain hvis (hG g cs hg') (hs.glob g cs hg')),Nat.zero_le _⟩
   · obtain ⟨hi,e1⟩:=(hphi0 i g).1 h1
     obtain ⟨hi',e2⟩:=(hphi0 i' g).1 h2
     exact hgi i i' hi hi' (e1.symm.trans e2)
   · obtain ⟨hi,rfl⟩:=(hphi0 id g).1 h1
     obtain ⟨b',hb',hn⟩:=hget id b hi h2
     obtain ⟨o,ho,hb⟩:=hs.box (ρ id) (gs id) _ (hgs id hi) hb'
     exact ⟨o,ho,hn.down hdn hb⟩
   · obtain ⟨hq1,hq2⟩:=hrow0 _ _ hq
     obtain ⟨_,_,a3,a4,a5⟩:=hs.row _ _ _ _ _ hq2
     refine ⟨fun i hb=>hb.1 (.inr ⟨q,n,cap,sz,hq1,hq2⟩),Nat.zero_le _,fun hm'=>?_,a4,a5⟩
     obtain ⟨i,hi,rfl⟩:=hmem0 g hm'
     exact a3 (hmem i hi)
   · have hlt:=hFm q n hq
     have:=hs.rfree _ _ (htok q n hlt hq)
     rw [hrw q hlt] at this
     rw [hrow0' q hlt]
     exact this
   · obtain ⟨i,hi,rfl⟩:=hmem0 g hg'
     exact hs.Fe (hmem i hi)
   · obtain ⟨a1,a2⟩:=hrow0 _ _ h1
     obtain ⟨b1,b2⟩:=hrow0 _ _ h2
     exact hsinj _ _ a1 b1 (hs.rdist _ _ _ _ _ _ _ _ _ a2 b2)
 refine (h c0 w vs hst (hargs.down hdn ha)).mono ?_
 rintro e w' ⟨c',hx,hst',hend⟩
 have hphi':c'.Bf=c0.Bf:=by
   obtain ⟨t,ht⟩:=hx.Bf
   have h1:c'.Bf.length=k:=hst'.len.symm
   have h2:c0.Bf.length=k:=by simp [c0]
   rw [← ht,List.length_append,h2] at h1
   have:t=[]:=List.eq_nil_of_length_eq_zero (by omega)
   rw [← ht,this,List.append_nil]
 have hrlen':c'.rows.length=j:=hst'.rlen.symm
 have hrows':∀ q,q < j→∃ y,c'.rows[q]?=some y:=fun q hq=>⟨_,List.getElem?_eq_getElem (by rw [hrlen'];exact hq)⟩
 have hle:∀ q y,q < j→c'.rows[q]?=some y→Es (rw q) y:=by
   intro q y hq hy
   obtain ⟨x,h1,h2⟩:=hx.rows q y (by rw [hrlen0];exact hq) hy
   rw [hrow0' q hq] at h1
   cases h1
   exact h2
 let rows1:List Rw:=(List.range cx.rows.length).map fun q=>open Classical in if hq:∃ r,r < j∧σ r=q then c'.rows.getD (Classical.choose hq) .gone else cx.rows.getD q .gone
 have hrows1:rows1.length=cx.rows.length:=by simp [rows1]
 have hr1s:∀ r,r < j→rows1[σ r]?=c'.rows[r]?:=by
   intro r hr
   have hl:=(List.getElem?_eq_some_iff.1 (hrw r hr)).1
   show ((List.range cx.rows.length).map _)[σ r]?=_
   rw [List.getElem?_map,List.getElem?_range hl]
   simp only [Option.map_some]
   have hq:∃ r',r' < j∧σ r'=σ r:=⟨r,hr,rfl⟩
   rw [dif_pos hq]
   have hc:=Classical.choose_spec hq
   have:Classical.choose hq=r:=hsinj _ _ hc.1 hr hc.2
   rw [this]
   obtain ⟨y,hy⟩:=hrows' r hr
   rw [List.getD_eq_getElem?_getD,hy];rfl
 have hr1o:∀ q,(∀ r,r < j→q≠σ r)→rows1[q]?=cx.rows[q]?:=by
   intro q hq
   by_cases hl:q < cx.rows.length
   · show ((List.range cx.rows.length).map _)[q]?=_
     rw [List.getElem?_map,List.getElem?_range hl]
     simp only [Option.map_some]
     rw [dif_neg (by rintro ⟨r,h1,h2⟩;exact hq r h1 h2.symm),List.getD_eq_getElem?_getD,List.getElem?_eq_getElem hl];rfl
   · rw [List.getElem?_eq_none (by omega),List.getElem?_eq_none (by omega)]
 have hcase:∀ q:Nat,(∃ r,r < j∧q=σ r)∨∀ r,r < j→q≠σ r:=fun q=>by
   by_cases hq:∃ r,r < j∧q=σ r
   · exact .inl hq
   · exact .inr fun r h1 h2=>hq ⟨r,h1,h2⟩
 have hnew:∀ r g n cap sz,r < j→c'.rows[r]?=some (.blk g n cap sz)→(∃ r0 n0 cap0 sz0,r0 < j∧cx.rows[σ r0]?=some (.blk g n0 cap0 sz0))∨w.heap.size≤g:=by
   intro r g n cap sz hr hy
   rcases hx.rnew _ _ _ _ _ hy with ⟨r0,n0,cap0,sz0,h1⟩ | h1
   · obtain ⟨h2,h3⟩:=hrow0 _ _ h1
     exact .inl ⟨r0,n0,cap0,sz0,h2,h3⟩
   · exact .inr h1
 have hbel:=hx.below
 have hchg:KL w w' K:=⟨hbel.os,hbel.tape,hbel.output,hbel.size,fun q hq hne=>hx.CY q hq (fun hm'=>hne (.inl (hmem0 q hm'))) (fun r n cap sz hr=>hne (by
   obtain ⟨h1,h2⟩:=hrow0 _ _ hr
   exact .inr ⟨r,n,cap,sz,h1,h2⟩))⟩
 have hKb:∀ q,K q→cx.base≤q:=by
   rintro q (⟨i,hi,rfl⟩ | ⟨r,n,cap,sz,hr,h1⟩)
   · exact hs.low _ (hmem i hi)
   · exact (hs.row _ _ _ _ _ h1).2.1
 let c1:Cx:=⟨cx.base,cx.Bf,rows1,cx.bad⟩
 have hvis':∀ g i x,EM c' w' g i x→EM c1 w' g i x:=by
   intro g i x hv
   refine ⟨hv.1,fun hsh=>hv.2.1 ?_,hv.2.2⟩
   have hbad:¬ K g→cx.LA g i→c'.LA g i:=fun h1 h2=>.inr (.inr (by rw [hx.bad];exact ⟨h1,h2⟩))
   rcases hsh with hsh | ⟨q,n,cap,sz,hq,h1,h2⟩ | hsh
   · by_cases hK:K g
     · rcases hK with ⟨i',hi',rfl⟩ | ⟨r,n,cap,sz,hr,h1⟩
       · refine .inl ?_
         rw [hphi']
         exact List.mem_of_getElem? ((hphi0 i' (gs i')).2 ⟨hi',rfl⟩)
       · exact absurd hsh (hs.row _ _ _ _ _ h1).2.2.1
     · exact hbad hK (.inl hsh)
   · rcases hcase q with ⟨r,hr,rfl⟩ | hq'
     · simp only [c1] at hq
       rw [hr1s r hr] at hq
       exact .inr (.inl ⟨r,n,cap,sz,hq,h1,h2⟩)
     · simp only [c1] at hq
       rw [hr1o q hq'] at hq
       refine hbad ?_ (.inr (.inl ⟨q,n,cap,sz,hq,h1,h2⟩))
       rintro (⟨i',hi',rfl⟩ | ⟨r,n',cap',sz',hr,h3⟩)
       · exact (hs.row _ _ _ _ _ hq).2.2.1 (hmem i' hi')
       · exact hq' r hr (hs.rdist _ _ _ _ _ _ _ _ _ hq h3)
   · by_cases hK:K g
     · rcases hK with ⟨i',hi',rfl⟩ | ⟨r,n,cap,sz,hr,h1⟩
       · refine .inl ?_
         rw [hphi']
         exact List.mem_of_getElem? ((hphi0 i' (gs i')).2 ⟨hi',rfl⟩)
       · exact absurd hsh ((hs.row _ _ _ _ _ h1).1 i)
     · exact hbad hK (.inr (.inr hsh))
 have ext:Ext cx w c1 w':=by
   refine ⟨List.prefix_refl _,by simp [c1,hrows1],fun q y hq hy=>?_,fun g i x hv=>hvis' g i x (hx.vis g i x (hvis g i x hv)),hchg.below hs.bsz hKb,rfl,rfl,fun _ h=>.inl h,fun q g n cap sz hq=>?_,fun q hq hp hr=>hchg.block q hq ?_⟩
   · rcases hcase q with ⟨r,hr,rfl⟩ | hq'
     · simp only [c1] at hy
       rw [hr1s r hr] at hy
       exact ⟨rw r,hrw r hr,hle r y hr hy⟩
     · simp only [c1] at hy
       rw [hr1o q hq'] at hy
       exact ⟨y,hy,Es.refl y⟩
   · rcases hcase q with ⟨r,hr,rfl⟩ | hq'
     · simp only [c1] at hq
       rw [hr1s r hr] at hq
       rcases hnew _ _ _ _ _ hr hq with ⟨r0,n0,cap0,sz0,_,h1⟩ | h1
       · exact .inl ⟨_,_,_,_,h1⟩
       · exact .inr h1
     · simp only [c1] at hq
       rw [hr1o q hq'] at hq
       exact .inl ⟨_,_,_,_,hq⟩
   · rintro (⟨i',hi',rfl⟩ | ⟨r,n',cap',sz',hr',h3⟩)
     · exact hp (hmem i' hi')
     · exact hr _ _ _ _ h3
 have hup:Up k j ρ σ c' w' c1 w':=⟨hvis',fun i g hi hg'=>by
   rw [hphi',hphi0] at hg'
   obtain ⟨_,rfl⟩:=hg'
   exact hgs i hi,fun q hq=>by
   obtain ⟨y,hy⟩:=hrows' q hq
   exact ⟨y,by simp only [c1];rw [hr1s q hq];exact hy,hy⟩⟩
 have st1:St G c1 w' s2:=by
   refine ⟨by rw [hu.nx,hs.len],by rw [hu.nx];exact hu.desc _ hs.desc,hs.nodup,hs.low,fun id g b h1 h2=>?_,by rw [hu.nr,hs.rlen];exact hrows1.symm,fun q g n cap sz hq=>?_,fun q n hq=>?_,fun g hg'=>Nat.lt_of_lt_of_le (hs.plow g hg') hchg.size,fun g i hb=>Nat.lt_of_lt_of_le (hs.blow g i hb) hchg.size,fun q q' g n cap sz n' cap' sz' h1 h2=>?_,fun g cs hg'=>(hs.glob g cs hg').mono ext,Nat.le_trans hs.bsz hchg.size⟩
   · rcases hu.get id b h2 with ⟨i,b0,hi,rfl,hb0,hn⟩ | ⟨hne,h3⟩
     · obtain ⟨o,ho,hb⟩:=hst'.box i (gs i) b0 (by rw [hphi'];exact (hphi0 i (gs i)).2 ⟨hi,rfl⟩) hb0
       have h1:cx.Bf[ρ i]?=some (some g):=h1
       rw [hgs i hi] at h1
       cases h1
       exact ⟨o,ho,hn.up hup hb⟩
     · obtain ⟨o,ho,hb⟩:=hs.box id g b h1 h3
       refine ⟨o,?_,hb.mono ext⟩
       rw [hchg.block g (Array.getElem?_eq_some_iff.1 ho).1 ?_]
       · exact ho
       · rintro (⟨i',hi',rfl⟩ | ⟨r,n',cap',sz',hr',h4⟩)
         · exact hne i' hi' (hs.nodup _ _ _ h1 (hgs i' hi'))
         · exact (hs.row _ _ _ _ _ h4).2.2.1 (List.mem_of_getElem? h1)
   · simp only [c1] at hq ⊢
     rcases hcase q with ⟨r,hr',rfl⟩ | hq'
     · rw [hr1s r hr'] at hq
       obtain ⟨a1,a2,a3,a4,a5⟩:=hst'.row _ _ _ _ _ hq
       rcases hnew _ _ _ _ _ hr' hq with ⟨r0,n0,cap0,sz0,_,h4⟩ | h4
       · obtain ⟨b1,b2,b3,_⟩:=hs.row _ _ _ _ _ h4
         exact ⟨b1,b2,b3,a4,a5⟩
       · refine ⟨fun i hb=>?_,Nat.le_trans hs.bsz h4,fun hm'=>?_,a4,a5⟩
         · have:=hs.blow _ _ hb;omega
         · have:=hs.Fe hm';omega
     · rw [hr1o q hq'] at hq
       obtain ⟨a1,a2,a3,a4,vs',T,a5,a6⟩:=hs.row _ _ _ _ _ hq
       refine ⟨a1,a2,a3,a4,vs',T,?_,a6⟩
       rw [hchg.block g (Array.getElem?_eq_some_iff.1 a5).1 ?_]
       · exact a5
       · rintro (⟨i',hi',rfl⟩ | ⟨r,n',cap',sz',hr',h4⟩)
         · exact a3 (hmem i' hi')
         · exact hq' r hr' (hs.rdist _ _ _ _ _ _ _ _ _ hq h4)
   · simp only [c1]
     rcases hu.tok q n hq with ⟨r,hr',rfl,h3⟩ | ⟨hq',h3⟩
     · rw [hr1s r hr']
       exact hst'.rfree r n h3
     · rw [hr1o q hq']
       exact hs.rfree q n h3
   · simp only [c1] at h1 h2
     have key:∀ r q,r < j→(∀ r',r' < j→q≠σ r')→∀ n cap sz n' cap' sz',c'.rows[r]?=some (.blk g n cap sz)→cx.rows[q]?=some (.blk g n' cap' sz')→False:=by
       intro r q hr' hq' n cap sz n' cap' sz' e1 e2
       rcases hnew _ _ _ _ _ hr' e1 with ⟨r0,n0,cap0,sz0,hr0,h4⟩ | h4
       · exact hq' r0 hr0 (hs.rdist _ _ _ _ _ _ _ _ _ e2 h4)
       · have:=hs.FZ e2;omega
     rcases hcase q with ⟨r,hr',rfl⟩ | hq1<;>rcases hcase q' with ⟨r2,hr2,rfl⟩ | hq2
     · rw [hr1s r hr'] at h1
       rw [hr1s r2 hr2] at h2
       rw [hst'.rdist _ _ _ _ _ _ _ _ _ h1 h2]
     · rw [hr1s r hr'] at h1
       rw [hr1o q' hq2] at h2
       exact (key r q' hr' hq2 _ _ _ _ _ _ h1 h2).elim
     · rw [hr1o q hq1] at h1
       rw [hr1s r2 hr2] at h2
       exact (key r2 q hr2 hq1 _ _ _ _ _ _ h2 h1).elim
     · rw [hr1o q hq1] at h1
       rw [hr1o q' hq2] at h2
       exact hs.rdist _ _ _ _ _ _ _ _ _ h1 h2
 refine ⟨c1,ext,st1,?_⟩
 cases r with
 | ret v =>
   cases r' with
   | ret v' =>
     obtain ⟨u,rfl,hu'⟩:=hend
     exact ⟨u,rfl,Rn.up hup hr hu'⟩
   | pan v'=>exact hr.elim
 | pan v =>
   cases r' with
   | ret v'=>exact hr.elim
   | pan v' =>
     obtain ⟨u,rfl,hu'⟩:=hend
     exact ⟨u,rfl,Rn.up hup hr hu'⟩
end AI
namespace AI
open Go Go.RowKit
def DE:List Ap→Nat→List (Nat×Ap)→List (Nat×Ap)
 | [],_,acc=>acc
 | b::l,n,acc=>DE l (n+1) ((n,b)::acc)
def Lb:List Nat→Nat→List (Nat×Nat)
 | [],_=>[]
 | k::l,n=>(n,k)::Lb l (n+1)
theorem RU {M:List Ap}:∀ {n:Nat} {acc:List (Nat×Ap)} {i:Nat} {b:Ap},DY acc n→look i (DE M n acc)=some b→(n≤i∧M[i - n]?=some b)∨look i acc=some b:=by
 induction M with
 | nil=>intro n acc i b _ h;exact .inr h
 | cons x M ih =>
   intro n acc i b hd h
   rcases ih (n:=n+1) (acc:=(n,x)::acc) ⟨Nat.lt_succ_self n,hd⟩ h with ⟨h1,h2⟩ | h1
   · refine .inl ⟨by omega,?_⟩
     rw [show i - n=(i - (n+1))+1 by omega]
     exact h2
   · simp only [look] at h1
     split at h1
     · rename_i hb
       have:=beq_true hb
       subst this
       cases h1
       exact .inl ⟨Nat.le_refl _,by simp⟩
     · exact .inr h1
theorem SD {M:List Ap}:∀ {n:Nat} {acc:List (Nat×Ap)},DY acc n→DY (DE M n acc) (n+M.length):=by
 induction M with
 | nil=>intro n acc h;exact h
 | cons x M ih =>
   intro n acc h
   have:=ih (n:=n+1) (acc:=(n,x)::acc) ⟨Nat.lt_succ_self n,h⟩
   rw [List.length_cons,show n+(M.length+1)=n+1+M.length by omega]
   exact this
theorem La {T:List Nat}:∀ {n r k:Nat},BJ r (Lb T n)=some k→n≤r∧T[r - n]?=some k:=by
 induction T with
 | nil=>intro n r k h;cases h
 | cons x T ih =>
   intro n r k h
   simp only [Lb,BJ] at h
   split at h
   · rename_i hb
     have:=beq_true hb
     subst this
     cases h
     exact ⟨Nat.le_refl _,by simp⟩
   · obtain ⟨h1,h2⟩:=ih h
     refine ⟨by omega,?_⟩
     rw [show r - n=(r - (n+1))+1 by omega]
     exact h2
theorem OM {T:List Nat}:∀ {n r:Nat},n≤r→r - n < T.length→∃ k,BJ r (Lb T n)=some k:=by
 induction T with
 | nil=>intro n r _ h;simp at h
 | cons x T ih =>
   intro n r h1 h2
   simp only [Lb,BJ]
   split
   · exact ⟨_,rfl⟩
   · rename_i hb
     have:=beq_false hb
     exact ih (by omega) (by simp at h2;omega)
inductive Nl (k j:Nat) (ρ σ:Nat→Nat):List Ap→List (Nat×Ap)→Prop where
 | nil:Nl k j ρ σ [] []
 | cons {b b':Ap} {i:Nat} {l:List Ap} {m:List (Nat×Ap)} (h:Ue k j ρ σ b b') (t:Nl k j ρ σ l m):Nl k j ρ σ (b::l) ((i,b')::m)
theorem Nl.len {k j:Nat} {ρ σ:Nat→Nat} {l:List Ap} {m:List (Nat×Ap)} (h:Nl k j ρ σ l m):l.length=m.length:=by
 induction h with
 | nil=>rfl
 | cons _ _ ih=>simp [ih]
theorem Nl.get {k j:Nat} {ρ σ:Nat→Nat} {l:List Ap} {m:List (Nat×Ap)} (h:Nl k j ρ σ l m):∀ {i:Nat} {b:Ap},l[i]?=some b→∃ e,m[i]?=some e∧Ue k j ρ σ b e.2:=by
 induction h with
 | nil=>intro i b hb;simp at hb
 | cons h _ ih =>
   intro i b hb
   cases i with
   | zero=>simp at hb;subst hb;exact ⟨_,rfl,h⟩
   | succ i=>exact ih (by simpa using hb)
theorem Nl.tK {k j:Nat} {ρ σ:Nat→Nat} {l:List Ap} {m:List (Nat×Ap)} (h:Nl k j ρ σ l m):∀ {i:Nat} {e:Nat×Ap},m[i]?=some e→∃ b,l[i]?=some b∧Ue k j ρ σ b e.2:=by
 induction h with
 | nil=>intro i b hb;simp at hb
 | cons h _ ih =>
   intro i b hb
   cases i with
   | zero=>simp at hb;subst hb;exact ⟨_,rfl,h⟩
   | succ i=>exact ih (by simpa using hb)
theorem Q8:∀ (l:List (Nat×Ap)) (s:AS) (id:Nat) (b:Ap),(s.KX l).get id=some b→(∃ e∈l,e.1=id∧e.2=b)∨((∀ e∈l,e.1≠id)∧s.get id=some b)
 | [],s,id,b,h=>.inr ⟨(fun e he=>by cases he),h⟩
 | e::l,s,id,b,h=>by
   rcases Q8 l (s.put e.1 e.2) id b h with ⟨x,hx,h1⟩ | ⟨h1,h2⟩
   · exact .inl ⟨x,List.mem_cons_of_mem _ hx,h1⟩
   · rcases KJ h2 with ⟨h3,h4⟩ | ⟨h3,h4⟩
     · exact .inl ⟨e,List.mem_cons_self,h3.symm,h4.symm⟩
     · refine .inr ⟨fun x hx=>?_,h4⟩
       rcases List.mem_cons.1 hx with rfl | hx
       · exact fun e=>h3 e.symm
       · exact h1 x hx
theorem OF:∀ (l:List (Nat×Ap)) (s:AS),(s.KX l).nx=s.nx∧(s.KX l).nr=s.nr∧(s.KX l).F=s.F∧∀ n,DY s.h n→DY (s.KX l).h n
 | [],s=>⟨rfl,rfl,rfl,fun _ h=>h⟩
 | e::l,s=>by
   obtain ⟨h1,h2,h3,h4⟩:=OF l (s.put e.1 e.2)
   exact ⟨h1,h2,h3,fun n h=>h4 n (Kw h)⟩
theorem Od:∀ (l:List (Nat×Nat)) (s:AS) (q n:Nat),BJ q (s.Jz l).F=some n→(∃ e∈l,e.1=q∧e.2=n)∨((∀ e∈l,e.1≠q)∧BJ q s.F=some n)
 | [],s,q,n,h=>.inr ⟨(fun e he=>by cases he),h⟩
 | e::l,s,q,n,h=>by
   rcases Od l _ q n h with ⟨x,hx,h1⟩ | ⟨h1,h2⟩
   · exact .inl ⟨x,List.mem_cons_of_mem _ hx,h1⟩
   · rcases Oe h2 with ⟨h3,h4,_⟩ | ⟨h3,h4⟩
     · exact .inl ⟨e,List.mem_cons_self,h3.symm,h4.symm⟩
     · refine .inr ⟨fun x hx=>?_,h4⟩
       rcases List.mem_cons.1 hx with rfl | hx
       · exact fun e=>h3 e.symm
       · exact h1 x hx
theorem Mu:∀ (l:List (Nat×Nat)) (s:AS),(s.Jz l).nx=s.nx∧(s.Jz l).nr=s.nr∧(s.Jz l).h=s.h
 | [],s=>⟨rfl,rfl,rfl⟩
 | e::l,s=>Mu l _
theorem NK:∀ {l:List (Nat×Ap)} {s:AS},NM s l=KF l→∀ {i:Nat} {e:Nat×Ap},l[i]?=some e→s.get e.1=some e.2
 | [],s,_,i,e,he=>by simp at he
 | x::l,s,h,i,e,he=>by
   simp only [NM,KF,List.cons.injEq] at h
   cases i with
   | zero=>simp at he;subst he;exact h.1
   | succ i=>exact NK h.2 (by simpa using he)
theorem QZ:∀ {l:List (Nat×Nat)} {F:List (Nat×Nat)},OS F l=Lx l→∀ {i:Nat} {e:Nat×Nat},l[i]?=some e→BJ e.1 F=some e.2
 | [],s,_,i,e,he=>by simp at he
 | x::l,s,h,i,e,he=>by
   simp only [OS,Lx,List.cons.injEq] at h
   cases i with
   | zero=>simp at he;subst he;exact h.1
   | succ i=>exact QZ h.2 (by simpa using he)
mutual
inductive YM (id:Nat):AV→Prop where
 | ptr {off:Nat}:YM id (.ptr id off)
 | mp:YM id (.mp id)
 | msl {off n:Nat}:YM id (.msl id off n)
 | agg {cs:List AV} (h:J9 id cs):YM id (.agg cs)
 | fn1 {f:Fn} {a b:List AV} (h:J9 id a):YM id (.fn f a b)
 | fn2 {f:Fn} {a b:List AV} (h:J9 id b):YM id (.fn f a b)
inductive J9 (id:Nat):List AV→Prop where
 | here {a:AV} {l:List AV} (h:YM id a):J9 id (a::l)
 | there {a:AV} {l:List AV} (h:J9 id l):J9 id (a::l)
end
mutual
theorem YM.Bf {c:Cx} {w:World} {id:Nat}:∀ {a:AV} {v:Value},YM id a→Rp c w a v→∃ g,c.Bf[id]?=some (some g):=by
 intro a v ho h
 cases ho with
 | ptr=>cases h with | ptr h1=>exact ⟨_,h1⟩
 | mp=>cases h with | mp h1=>exact ⟨_,h1⟩
 | msl=>cases h with | msl hn h1=>exact ⟨_,h1⟩
 | agg h1=>cases h with | agg h2=>exact J9.Bf h1 h2
 | fn1 h1=>cases h with | fn h2 h3=>exact J9.Bf h1 h2
 | fn2 h1=>cases h with | fn h2 h3=>exact J9.Bf h1 h3
theorem J9.Bf {c:Cx} {w:World} {id:Nat}:∀ {a:List AV} {v:List Value},J9 id a→A6 c w a v→∃ g,c.Bf[id]?=some (some g):=by
 intro a v ho h
 cases ho with
 | here h1=>cases h with | cons h2 _=>exact YM.Bf h1 h2
 | there h1=>cases h with | cons _ h2=>exact J9.Bf h1 h2
end
inductive nI (args:List AV) (pre:List (Nat×Ap)):Nat→Prop where
 | arg {id:Nat} (h:J9 id args):nI args pre id
 | box {i id p:Nat} {cs:List AV} (h:nI args pre i) (hp:pre[p]?=some (i,.cells cs)) (ho:J9 id cs):nI args pre id
theorem nI.Bf {G:AB} {args:List AV} {pre:List (Nat×Ap)} {s:AS} (hb:NM s pre=KF pre) {cx:Cx} {w:World} {vs:List Value} (hs:St G cx w s) (ha:A6 cx w args vs) {id:Nat} (h:nI args pre id):∃ g,cx.Bf[id]?=some (some g):=by
 induction h with
 | arg h=>exact h.Bf ha
 | box h hp ho ih =>
   obtain ⟨g,hg⟩:=ih
   obtain ⟨o,_,hbo⟩:=hs.box _ g _ hg (NK hb hp)
   cases hbo with
   | cellsX ext hr=>exact ho.Bf hr
def ES {β:Type} (l:List (Nat×β)) (i:Nat):Nat:=match l[i]? with
 | some e=>e.1
 | none=>0
theorem EU {β:Type} {l:List (Nat×β)} {i:Nat} {e:Nat×β} (h:l[i]?=some e):ES l i=e.1:=by unfold ES;rw [h]
def keys {β:Type} (l:List (Nat×β)):List Nat:=l.map (·.1)
theorem OD {β:Type} {l:List (Nat×β)} (h:(keys l).Nodup) {i i':Nat} (hi:i < l.length) (hi':i' < l.length) (e:ES l i=ES l i'):i=i':=by
 have h1:(keys l)[i]?=some (ES l i):=by
   unfold keys
   rw [List.getElem?_map,List.getElem?_eq_getElem hi,EU (List.getElem?_eq_getElem hi)];rfl
 have h2:(keys l)[i']?=some (ES l i'):=by
   unfold keys
   rw [List.getElem?_map,List.getElem?_eq_getElem hi',EU (List.getElem?_eq_getElem hi')];rfl
 rw [← e] at h2
 exact VA h h1 h2
theorem HY {β β':Type} {l:List (Nat×β)} {m:List (Nat×β')} (h:keys l=keys m) (i:Nat):ES l i=ES m i:=by
 have h1:=congrArg (fun x=>x[i]?) h
 unfold keys at h1
 simp only [List.getElem?_map] at h1
 unfold ES
 cases hl:l[i]?<;>cases hm:m[i]?<;>rw [hl,hm] at h1<;>simp at h1<;>simp [h1]
theorem D7 {P:Program} {G:AB} (hG:∀ g cs,G g=some cs→AL cs=true) {f:FuncId} {args args':List AV} {r r':CR} {M M2:List Ap} {T T2:List Nat} (pre ups:List (Nat×Ap)) (tp tu:List (Nat×Nat)) {k j:Nat}
   (h:Sound P G (.call f args ⟨DE M 0 [],k,Lb T 0,j⟩ r ⟨DE M2 0 [],k,Lb T2 0,j⟩))
   (hk:M.length=k) (hj:T.length=j) (hj2:T2.length=j)
   (hku:keys ups=keys pre) (hkt:keys tu=keys tp) (hnb:(keys pre).Nodup) (hnt:(keys tp).Nodup)
   (htp:tp.map (·.2)=T) (htu:tu.map (·.2)=T2)
   (hb:Nl k j (ES pre) (ES tp) M pre) (hb2:Nl k j (ES pre) (ES tp) M2 ups)
   (hargs:J7 k j (ES pre) (ES tp) args args')
   (hr:yE k j (ES pre) (ES tp) r r')
   (hrch:∀ e∈pre,nI args' pre e.1):Cd.ok P G (.callU f args' r' pre tp ups tu):=by
 intro s hgb hgf
 have hpl:pre.length=k:=by rw [← hb.len,hk]
 have htl:tp.length=j:=by rw [← hj,← htp,List.length_map]
 have hul:ups.length=k:=by
   have:=congrArg List.length hku
   simp only [keys,List.length_map] at this
   omega
 have htul:tu.length=j:=by rw [← hj2,← htu,List.length_map]
 refine jA hG h (by have:=SD (M:=M) (n:=0) (acc:=[]) trivial;rw [Nat.zero_add,hk] at this;exact this) (ES pre) (ES tp) (fun i i' hi hi' e=>OD hnb (by omega) (by omega) e) (fun i i' hi hi' e=>OD hnt (by omega) (by omega) e) hargs (s:=s) (fun i b hi hl=>?_) (fun cx w vs hs ha i hi=>?_) (fun q n hq hl=>?_) (fun q hq=>?_) (fun q n hl=>?_) hr ?_
 · rcases RU (acc:=[]) trivial hl with ⟨_,h1⟩ | h1
   · rw [Nat.sub_zero] at h1
     obtain ⟨e,he,hn⟩:=hb.get h1
     exact ⟨e.2,by rw [EU he];exact NK hgb he,hn⟩
   · cases h1
 · have he:pre[i]?=some pre[i]:=List.getElem?_eq_getElem (by omega)
   rw [EU he]
   exact (hrch _ (List.mem_of_getElem? he)).Bf hgb hs ha
 · obtain ⟨_,h1⟩:=La hl
   rw [Nat.sub_zero,← htp,List.getElem?_map] at h1
   cases he:tp[q]? with
   | none=>rw [he] at h1;cases h1
   | some e =>
     rw [he] at h1
     simp at h1
     rw [EU he,← h1]
     exact QZ hgf he
 · exact OM (Nat.zero_le _) (by omega)
 · obtain ⟨_,h1⟩:=La hl
   have:=(List.getElem?_eq_some_iff.1 h1).1
   omega
 · obtain ⟨a1,a2,a3,a4⟩:=OF ups s
   obtain ⟨b1,b2,b3⟩:=Mu tu (s.KX ups)
   refine ⟨by rw [b1,a1],by rw [b2,a2],fun n hd=>by rw [b3];exact a4 n hd,fun id b hg=>?_,fun q n hq=>?_⟩
   · have hg:(s.KX ups).get id=some b:=by
       unfold AS.get at hg ⊢
       rw [b3] at hg
       exact hg
     rcases Q8 ups s id b hg with ⟨e,he,rfl,rfl⟩ | ⟨h1,h2⟩
     · obtain ⟨i,hi⟩:=List.mem_iff_getElem?.1 he
       have hil:=(List.getElem?_eq_some_iff.1 hi).1
       obtain ⟨b0,hb0,hn⟩:=hb2.tK hi
       refine .inl ⟨i,b0,by omega,by rw [← HY hku,EU hi],?_,hn⟩
       have:∀ (M:List Ap) (n:Nat) (acc:List (Nat×Ap)) (i:Nat) (b:Ap),M[i]?=some b→(∀ e∈acc,e.1 < n)→look (n+i) (DE M n acc)=some b:=by
         intro M
         induction M with
         | nil=>intro n acc i b h;simp at h
         | cons x M ih =>
           intro n acc i b h hacc
           cases i with
           | succ i =>
             have:=ih (n+1) ((n,x)::acc) i b (by simpa using h) (fun e he=>by
               rcases List.mem_cons.1 he with rfl | he
               · exact Nat.lt_succ_self _
               · have:=hacc e he;omega)
             rw [show n+(i+1)=n+1+i by omega]
             exact this
           | zero =>
             simp at h
             subst h
             simp only [DE,Nat.add_zero]
             have hskip:∀ (M:List Ap) (n':Nat) (acc:List (Nat×Ap)),n < n'→look n (DE M n' acc)=look n acc:=by
               intro M
               induction M with
               | nil=>intro n' acc _;rfl
               | cons y M ih2 =>
                 intro n' acc hlt
                 simp only [DE]
                 rw [ih2 (n'+1) _ (by omega)]
                 simp only [look]
                 have:Nat.beq n' n=false:=by
                   cases hq:Nat.beq n' n with
                   | false=>rfl
                   | true=>have:=beq_true hq;omega
                 rw [this]
             rw [hskip M (n+1) _ (by omega)]
             simp only [look]
             rw [show Nat.beq n n=true from Nat.beq_refl n]
       have:=this M2 0 [] i b0 hb0 (fun e he=>by cases he)
       rwa [Nat.zero_add] at this
     · refine .inr ⟨fun i hi e=>?_,h2⟩
       have he:ups[i]?=some ups[i]:=List.getElem?_eq_getElem (by omega)
       refine h1 _ (List.mem_of_getElem? he) ?_
       rw [e,← HY hku,EU he]
   · rcases Od tu _ q n hq with ⟨e,he,rfl,rfl⟩ | ⟨h1,h2⟩
     · obtain ⟨i,hi⟩:=List.mem_iff_getElem?.1 he
       have hil:=(List.getElem?_eq_some_iff.1 hi).1
       refine .inl ⟨i,by omega,by rw [← HY hkt,EU hi],?_⟩
       obtain ⟨kk,hkk⟩:=OM (T:=T2) (n:=0) (r:=i) (Nat.zero_le _) (by omega)
       obtain ⟨_,h3⟩:=La hkk
       rw [Nat.sub_zero,← htu,List.getElem?_map,hi] at h3
       simp at h3
       rw [hkk,h3]
     · refine .inr ⟨fun i hi e=>?_,by rw [← a3];exact h2⟩
       have he:tu[i]?=some tu[i]:=List.getElem?_eq_getElem (by omega)
       refine h1 _ (List.mem_of_getElem? he) ?_
       rw [e,← HY hkt,EU he]
end AI
namespace AI
open Go Go.RowKit
section
variable {P:Program} {G:AB}
def QM (G:AB) (s0:AS) (r0:CR) (s2:AS):CR→AS→Prop:=fun r s'=>match r0 with
 | .ret v=>∃ a,r=.ret a∧UR G s0 [a] s' [v] s2
 | .pan v=>∃ a,r=.pan a∧UR G s0 [a] s' [v] s2
theorem D5 (hm:P.follows .mixedOrders=true) {f:FuncId} {args:List AV} {s0 s2:AS} {r0:CR} (h:WC P G (XS P G) H0 f args s0 (QM G s0 r0 s2)):Sound P G (.call f args s0 r0 s2):=by
 obtain ⟨r,s',hj,hq⟩:=h
 have hS:=sound (Lg hm) hj
 intro cx w vs hs hargs
 refine (hS cx w vs hs hargs).mono ?_
 rintro e w' ⟨c',hx,hs',hend⟩
 cases r0 with
 | ret v =>
   obtain ⟨a,rfl,hf⟩:=hq
   obtain ⟨u,rfl,hu⟩:=hend
   obtain ⟨c2,x2,st2,f2⟩:=hf cx w c' w' [u] hx hs hs' (.cons hu .nil)
   cases f2 with
   | cons f3 _=>exact ⟨c2,x2,st2,u,rfl,f3⟩
 | pan v =>
   obtain ⟨a,rfl,hf⟩:=hq
   obtain ⟨u,rfl,hu⟩:=hend
   obtain ⟨c2,x2,st2,f2⟩:=hf cx w c' w' [u] hx hs hs' (.cons hu .nil)
   cases f2 with
   | cons f3 _=>exact ⟨c2,x2,st2,u,rfl,f3⟩
def Hs (P:Program) (G:AB) (fn:Func) (m:Nat) (s0:AS) (Q:AX→List AV→AS→Prop) (v:AV) (s2:AS):Prop:=∀ a s',UR G s0 [a] s' [v] s2→IX P fn m Q a s'
def QJ (G:AB) (m:Nat) (s0:AS) (Q:AX→List AV→AS→Prop) (v:AV) (s2:AS):Prop:=∀ a s',UR G s0 [a] s' [v] s2→Kb m Q a s'
theorem Hs.body {fn:Func} {m:Nat} {s0 s2:AS} {v:AV}:Hs P G fn m s0 (Kd P fn m (QM G s0 (.ret v) s2)) v s2:=fun a s' hf=>.body ⟨a,rfl,hf⟩
theorem QJ.body {fn:Func} {m:Nat} {s0 s2:AS} {v:AV}:QJ G m s0 (Kd P fn m (QM G s0 (.pan v) s2)) v s2:=fun a s' hf=>.body ⟨a,rfl,hf⟩
theorem Hs.outer {fn:Func} {m id:Nat} {ks:List KI} {s0 s2:AS} {Q:AX→List AV→AS→Prop} {v:AV} (h:Hs P G fn m s0 Q v s2):Hs P G fn m s0 (B2 id (BV P G ks Q)) v s2:=fun a s' hf=>(h a s' hf).outer
theorem Hs.I5 {fn:Func} {m:Nat} {L:Code} {s0 s1 s2:AS} {Q:AX→List AV→AS→Prop} {v:AV} (h:Hs P G fn m s0 Q v s2):Hs P G fn m s0 (K1 P G L s1 Q) v s2:=h
theorem QJ.outer {m id:Nat} {ks:List KI} {s0 s2:AS} {Q:AX→List AV→AS→Prop} {v:AV} (h:QJ G m s0 Q v s2):QJ G m s0 (B2 id (BV P G ks Q)) v s2:=fun a s' hf=>(h a s' hf).outer
theorem QJ.I5 {m:Nat} {L:Code} {s0 s1 s2:AS} {Q:AX→List AV→AS→Prop} {v:AV} (h:QJ G m s0 Q v s2):QJ G m s0 (K1 P G L s1 Q) v s2:=h
def AF {f:FuncId} {args:List AV} {v:AV} {pre:List (Nat×Ap)} {tp:List (Nat×Nat)} {ups:List (Nat×Ap)} {tu:List (Nat×Nat)} (h:Cd.ok P G (.callU f args (.ret v) pre tp ups tu)):PC P G :=
 ⟨.u v pre tp ups tu,[.callU f args (.ret v) pre tp ups tu,.eqx (KF pre) (KF pre) (Lx tp) (Lx tp)],⟨h,⟨rfl,rfl⟩,trivial⟩⟩
def xU (l:List NZ):PC P G:=⟨.n l,[],trivial⟩
def pza:PC P G:=⟨.za,[],trivial⟩
def eU {b:Ap} {t:TypeId} {off:Nat} {v:AV} (h:Cd.ok P G (.ldB b t off v)):PC P G:=⟨.lb b v,[.ldB b t off v,.eqx [some b] [some b] [] []],⟨h,⟨rfl,rfl⟩,trivial⟩⟩
def psb {b:Ap} {t:TypeId} {off:Nat} {x:AV} {b2:Ap} (h:Cd.ok P G (.stB b t off x b2)):PC P G:=⟨.sb b b2,[.stB b t off x b2,.eqx [some b] [some b] [] []],⟨h,⟨rfl,rfl⟩,trivial⟩⟩
def pmb {t:TypeId} {a x:AV} {n:Nat} {m:Ap} (h:Cd.ok P G (.mkB t a x n m)):PC P G:=⟨.mb n m,[.mkB t a x n m],⟨h,trivial⟩⟩
end
end AI
namespace AI
open Go Go.RowKit
mutual
theorem MA {n m n2 m2:Nat} (h1:n≤n2) (h2:m≤m2):∀ {a:AV},under n m a=true→under n2 m2 a=true
 | .sc _,_=>rfl
 | .agg cs,h=>by simp only [under] at h ⊢;exact DZ h1 h2 h
 | .Bc cs,h=>by simp only [under] at h ⊢;exact DZ h1 h2 h
 | .sl o k cs,h=>by
   simp only [under,Bool.and_eq_true] at h ⊢
   refine ⟨?_,DZ h1 h2 h.2⟩
   have h3:=h.1
   cases o with
   | row r z=>simp only [decide_eq_true_eq] at h3 ⊢;omega
   | _=>rfl
 | .msl id _ _,h=>by simp only [under,decide_eq_true_eq] at h ⊢;omega
 | .el cs,h=>by simp only [under] at h ⊢;exact DZ h1 h2 h
 | .ptr id _,h=>by simp only [under,decide_eq_true_eq] at h ⊢;omega
 | .fn _ a b,h=>by simp only [under,Bool.and_eq_true] at h ⊢;exact ⟨DZ h1 h2 h.1,DZ h1 h2 h.2⟩
 | .ifc _ v,h=>by simp only [under] at h ⊢;exact MA h1 h2 h
 | .mp id,h=>by simp only [under,decide_eq_true_eq] at h ⊢;omega
 | .any,_=>rfl
 | .raw _ _ _,_=>rfl
theorem DZ {n m n2 m2:Nat} (h1:n≤n2) (h2:m≤m2):∀ {a:List AV},B3 n m a=true→B3 n2 m2 a=true
 | [],_=>rfl
 | a::l,h=>by simp only [B3,Bool.and_eq_true] at h ⊢;exact ⟨MA h1 h2 h.1,DZ h1 h2 h.2⟩
end
theorem Wn.z {l m:List AV} (t:Wn l m):Wn (.sl .full 0 []::l) (.sl .lost 0 []::m):=.s rfl t
theorem rS {P:Program} {G:AB} {r:HR} {X:Prop} {x:Value} {fn:Func} {m:Nat} {l:List (PC P G)} (R:L5 P G l (Kd P fn m (fun r _=>∃ a,r=.ret a∧Fits 0 0 a (.sc x))) r X) (h:iD P fn r=some (Uq l,.sc x)):X:=A5 fn m R h .body .sc
abbrev JJ:=List Value×List AV
def lE:List Value→Nat→Value
 | [],_=>undef
 | v::_,0=>v
 | _::l,k+1=>lE l k
def rT:List AV→Nat→AV
 | [],_=>.sc undef
 | v::_,0=>v
 | _::l,k+1=>rT l k
def jn (j:JJ) (k:Nat):Value:=lE j.1 k
def gn (j:JJ) (k:Nat):AV:=rT j.2 k
def nB:Nat→Nat→List (Nat×AV)→List Nat→Nat→List Nat→Nat→JJ→List AV
 | 0,_,_,_,_,_,_,_=>[]
 | n+1,p,l,bs,kb,gs,kg,j=>(match hd1 p l with
   | some v=>v::nB n (p+1) (l.drop 1) bs kb gs kg j
   | none=>(match hd2 p bs with
     | true=>.sc (jn j kb)::nB n (p+1) l (bs.drop 1) (kb+1) gs kg j
     | false=>(match hd2 p gs with
       | true=>gn j kg::nB n (p+1) l bs kb (gs.drop 1) (kg+1) j
       | false=>.any::nB n (p+1) l bs kb gs kg j)))
where
 hd1 (p:Nat):List (Nat×AV)→Option AV
   | []=>none
   | e::_=>(match Nat.beq e.1 p with | true=>some e.2 | false=>none)
 hd2 (p:Nat):List Nat→Bool
   | []=>false
   | e::_=>Nat.beq e p
structure Mm (κ ν:Type) where
 es:List (κ×ν×Nat)
 cl:Nat
section
variable {κ ν:Type} [DecidableEq κ]
def D2 (k:κ):List (κ×ν×Nat)→Nat→Option (Nat×ν)
 | [],_=>none
 | e::es,i=>if e.1=k then some (i,e.2.1) else D2 k es (i+1)
def Mm.get (m:Mm κ ν) (k:κ):Option ν:=(D2 k m.es 0).map (·.2)
def Mm.set (m:Mm κ ν) (k:κ) (v:ν):Mm κ ν:=match D2 k m.es 0 with
 | some (j,_)=>(match m.es[j]? with | some e=>⟨m.es.set j (k,v,e.2.2),m.cl⟩ | none=>m)
 | none=>⟨m.es++[(k,v,m.cl)],m.cl+1⟩
def Mm.nil:Mm κ ν:=⟨[],0⟩
theorem Mm.get_nil (k:κ):(Mm.nil:Mm κ ν).get k=none:=rfl
theorem Vx (k k2:κ) (v:ν) (b:Nat):∀ (es:List (κ×ν×Nat)) (i:Nat),D2 k (es++[(k2,v,b)]) i=match D2 k es i with
   | some r=>some r
   | none=>if k2=k then some (i+es.length,v) else none:=by
 intro es
 induction es with
 | nil=>intro i;simp [D2]
 | cons e es ih =>
   intro i
   simp only [List.cons_append,D2]
   by_cases he:e.1=k
   · simp [he]
   · rw [if_neg he,if_neg he,ih (i+1)]
     cases D2 k es (i+1) with
     | some r=>rfl
     | none=>simp only [List.length_cons];rw [show i+1+es.length=i+(es.length+1) by omega]
theorem Nq {k:κ}:∀ {es:List (κ×ν×Nat)} {i j:Nat} {v:ν},D2 k es i=some (j,v)→∃ m e,j=i+m∧es[m]?=some e∧e.1=k∧e.2.1=v:=by
 intro es
 induction es with
 | nil=>intro i j v h;cases h
 | cons e es ih =>
   intro i j v h
   simp only [D2] at h
   split at h
   · rename_i he;cases h;exact ⟨0,e,rfl,rfl,he,rfl⟩
   · obtain ⟨m,e',h1,h2,h3⟩:=ih h
     exact ⟨m+1,e',by omega,by simpa using h2,h3⟩
theorem Vw {k:κ} {v:ν}:∀ {es:List (κ×ν×Nat)} {i m b:Nat} {v0:ν},D2 k es i=some (i+m,v0)→∀ k',D2 k' (es.set m (k,v,b)) i=if k'=k then some (i+m,v) else D2 k' es i:=by
 intro es
 induction es with
 | nil=>intro i m b v0 h;cases h
 | cons e es ih =>
   intro i m b v0 h k'
   simp only [D2] at h
   split at h
   · rename_i he
     have hm:m=0:=by have h5:=congrArg (fun o:Option (Nat×ν)=>o.map (·.1)) h;simp at h5;omega
     subst hm
     simp only [List.set_cons_zero,D2,he]
     by_cases hk:k'=k
     · simp [hk]
     · have hk2:¬ k=k':=fun e=>hk e.symm
       simp [hk,hk2]
   · rename_i he
     obtain ⟨m',_,hm,_⟩:=Nq h
     cases m with
     | zero=>omega
     | succ m =>
       simp only [List.set_cons_succ,D2]
       have:=ih (i:=i+1) (m:=m) (b:=b) (by rw [show i+1+m=i+(m+1) by omega];exact h) k'
       by_cases hk:e.1=k'
       · rw [if_pos hk,if_pos hk]
         have:¬ k'=k:=fun e'=>he (hk.trans e')
         simp [this]
       · rw [if_neg hk,if_neg hk,this,show i+1+m=i+(m+1) by omega]
theorem Mm.D9 (m:Mm κ ν) (k:κ) (v:ν) (k':κ):(m.set k v).get k'=if k'=k then some v else m.get k':=by
 unfold Mm.get Mm.set
 cases hf:D2 k m.es 0 with
 | none =>
   simp only
   rw [Vx]
   by_cases hk:k'=k
   · subst hk;rw [hf];simp
   · cases hf':D2 k' m.es 0 with
     | some r=>simp [hk]
     | none =>
       have hk2:¬ k=k':=fun e=>hk e.symm
       simp [hk,hk2]
 | some r =>
   obtain ⟨j,v0⟩:=r
   obtain ⟨q,e,h1,h2,h3,_⟩:=Nq hf
   have hj:j=q:=by omega
   subst hj
   simp only [h2]
   rw [Vw (i:=0) (m:=j) (v0:=v0) (by rw [Nat.zero_add];exact hf)]
   by_cases hk:k'=k<;>simp [hk]
end
def eO {κ ν:Type} (kv:κ→Value) (vv:ν→AV) (l:List (κ×ν×Nat)):List (Value×AV×Nat):=l.map fun e=>(kv e.1,vv e.2.1,e.2.2)
def mB {κ ν:Type} (kv:κ→Value) (vv:ν→AV) (m:Mm κ ν):Ap:=.map (eO kv vv m.es) m.cl
structure Ow {κ:Type} [DecidableEq κ] (d:TypeDesc) (kv:κ→Value):Prop where
 pk:plainKey d=true
 same:∀ a b:κ,Kh d (kv a) (kv b)=some (decide (b=a))
theorem M1 {κ ν:Type} [DecidableEq κ] {d:TypeDesc} {kv:κ→Value} {vv:ν→AV} (hk:Ow d kv) (k:κ):∀ (l:List (κ×ν×Nat)) (i:Nat),Ju d (kv k) (eO kv vv l) i=some ((D2 k l i).map fun r=>(r.1,vv r.2)):=by
 intro l
 induction l with
 | nil=>intro i;rfl
 | cons e l ih =>
   intro i
   simp only [eO,List.map_cons,Ju,hk.same,D2]
   by_cases he:e.1=k
   · simp [he]
   · have:=ih (i+1)
     unfold eO at this
     simp [he,this]
theorem Xm:Ow (κ:=Int) (.int .i64) (fun n=>.int .i64 n):=⟨rfl,fun a b=>by
 simp only [Kh,if_true,Option.some.injEq]
 rw [Bool.eq_iff_iff,decide_eq_true_iff,beq_iff_eq]
 exact eq_comm⟩
theorem W1:Ow (κ:=ByteArray) .string (fun n=>.string n):=⟨rfl,fun a b=>by
 simp only [Kh,Option.some.injEq]
 rw [Bool.eq_iff_iff,decide_eq_true_iff]
 simp only [beq_iff_eq]
 exact ⟨fun h=>(ByteArray.ext (Array.ext' h)).symm,fun h=>by rw [h]⟩⟩
section
variable {P:Program} {G:AB} {κ ν:Type} [DecidableEq κ] {t kt et:TypeId} {d:TypeDesc} {kv:κ→Value} {vv:ν→AV}
theorem Ua (ht:P.underlying t=some (.map kt et)) (hd:P.underlying kt=some d) (hk:Ow d kv) {z:ν} (hz:D6 P et=some (vv z)) (m:Mm κ ν) (k:κ):Cd.ok P G (.lkB (mB kv vv m) t (.sc (kv k)) false (vv ((m.get k).getD z))):=by
 intro s id hg
 unfold C4
 have hsc:Il (.sc (kv k))=some (kv k):=rfl
 simp only [ht,hd,hsc,hk.pk,if_true,hg,mB,M1 hk,Mm.get]
 cases D2 k m.es 0 with
 | none=>simp [hz]
 | some r=>simp
theorem Ys (ht:P.underlying t=some (.map kt et)) (hd:P.underlying kt=some d) (hk:Ow d kv) {z:ν} (hz:D6 P et=some (vv z)) (m:Mm κ ν) (k:κ) {b:Bool} (hb:(m.get k).isSome=b):Cd.ok P G (.lkB (mB kv vv m) t (.sc (kv k)) true (.Bc [vv ((m.get k).getD z),.sc (.bool b)])):=by
 intro s id hg
 subst hb
 unfold C4
 have hsc:Il (.sc (kv k))=some (kv k):=rfl
 simp only [ht,hd,hsc,hk.pk,if_true,hg,mB,M1 hk,Mm.get]
 cases D2 k m.es 0 with
 | none=>simp [hz]
 | some r=>simp
theorem Tv (ht:P.underlying t=some (.map kt et)) (hd:P.underlying kt=some d) (hk:Ow d kv) (m:Mm κ ν) (k:κ) (v:ν):Cd.ok P G (.msB (mB kv vv m) t (.sc (kv k)) (vv v) (mB kv vv (m.set k v))):=by
 intro s id hg
 unfold Ed
 have hsc:Il (.sc (kv k))=some (kv k):=rfl
 simp only [ht,hd,hsc,hk.pk,if_true,hg,mB,M1 hk,Mm.set]
 cases hf:D2 k m.es 0 with
 | none=>simp [eO]
 | some r =>
   obtain ⟨j,v0⟩:=r
   obtain ⟨q,e,h1,h2,h3,_⟩:=Nq hf
   have hj:j=q:=by omega
   subst hj
   simp [h2,eO,List.map_set]
def IC {b:Ap} {t:TypeId} {k:AV} {ok:Bool} {v:AV} (h:Cd.ok P G (.lkB b t k ok v)):PC P G:=⟨.x b v,[.lkB b t k ok v,.eqx [some b] [some b] [] []],⟨h,⟨rfl,rfl⟩,trivial⟩⟩
def UD {b b2:Ap} {t:TypeId} {k v:AV} (h:Cd.ok P G (.msB b t k v b2)):PC P G:=⟨.y b b2,[.msB b t k v b2,.eqx [some b] [some b] [] []],⟨h,⟨rfl,rfl⟩,trivial⟩⟩
end
section
variable {κ ν:Type} {kv:κ→Value} {vv:ν→AV}
theorem V7 {n m:Nat} {μ:Mm κ ν} (h:∀ v,plain (vv v)=true):PF n m (mB kv vv μ)=true:=by
 unfold mB PF eO
 generalize μ.es=l
 induction l with
 | nil=>rfl
 | cons e l ih=>simp only [List.map_cons,Ks,GO _ _ (h _),ih,Bool.and_self]
theorem Ij {n m:Nat} {μ:Mm κ ν} (h:∀ v,plain (vv v)=true):Hm n m (mB kv vv μ) (mB kv vv μ):=.under (V7 h)
theorem Gl {k j:Nat} {ρ σ:Nat→Nat} {μ:Mm κ ν} (h:∀ v,plain (vv v)=true):Ue k j ρ σ (mB kv vv μ) (mB kv vv μ):=.map fun e he=>by
 unfold eO at he
 obtain ⟨a,_,rfl⟩:=List.mem_map.1 he
 exact h _
end
end AI
namespace AI
open Go Go.RowKit
def JH (n:Nat) (z:Int):Option Nat:=if 0≤z∧z < ((n:Nat):Int) then some z.toNat else none
def cH {β:Type} (n:Nat) (x:Option β):Option β:=if n≤16777216 then x else none
theorem oQ {β:Type} {n:Nat} {x:Option β} {r:β} {X:Prop} (h1:n≤16777216→x=some r→X):cH n x=some r→X:=fun h=>by
 unfold cH at h
 split at h
 · rename_i h2;exact h1 h2 h
 · cases h
section
variable {P:Program} {G:AB} {α:Type} {f:α→List AV} {C:List α→List AV} {k:Nat}
theorem GL.tD (_:GL f C k) {t elem:TypeId} (hu:P.underlying t=some (.slice elem)) (hs:(P.info? elem).map (·.size)=some k) {id n i:Nat} (h:i < n):BD P t (.msl id 0 n) (.sc (.int .i64 ((i:Nat):Int)))=some (.ptr id (0+i*k)):=by
 cases hi:P.info? elem with
 | none=>rw [hi] at hs;cases hs
 | some e =>
   rw [hi] at hs
   have hk:e.size=k:=by simpa using hs
   have hn:IA (.sc (.int .i64 ((i:Nat):Int)))=some i:=by unfold IA;simp
   unfold BD
   rw [hu,hn]
   simp only [hi]
   rw [if_pos h,hk]
theorem GL.vG (hl:GL f C k) {t elem:TypeId} (hu:P.underlying t=some (.slice elem)) (hs:(P.info? elem).map (·.size)=some k) {id n i:Nat} {z:Int} (h:JH n z=some i):BD P t (.msl id 0 n) (.sc (.int .i64 z))=some (.ptr id (0+i*k)):=by
 unfold JH at h
 split at h
 · rename_i hz
   cases h
   have:=hl.tD (id:=id) hu hs (show z.toNat < n by omega)
   rwa [Int.toNat_of_nonneg hz.1] at this
 · cases h
theorem GL.ld1 (h:GL f C 1) {e:TypeId} (hd:(P.underlying e).map FV=some false) (hs:(P.info? e).map (·.size)=some 1) {l:List α} {i:Nat} {x:α} {v:AV} (hx:l[i]?=some x) (hv:f x=[v]):Cd.ok P G (.ldB (.cells (C l)) e (0+i*1) v):=by
 intro s id hg
 simp only [DO,hg]
 unfold apart
 obtain ⟨d,hu,hd⟩:=Option.map_eq_some_iff.1 hd
 rw [hu]
 cases hi:P.info? e with
 | none=>rw [hi] at hs;cases hs
 | some j =>
   simp only
   rw [hd,if_neg (by simp),h.eq,Nat.zero_add,← List.head?_drop,Ji h.len hx,hv]
   rfl
theorem ON {l:List α} {i:Nat} (y:α) (h:i < l.length):l.set i y=l.take i++y::l.drop (i+1):=by
 rw [List.set_eq_take_append_cons_drop,if_pos h]
theorem GL.st (h:GL f C k) {e:TypeId} (hs:(P.info? e).map (·.size)=some k) {l:List α} {i:Nat} {x:α} (hx:l[i]?=some x) (y:α) {v:AV} (hv:cellsOf v=f y) (h1:(f y).all one=true):Cd.ok P G (.stB (.cells (C l)) e (0+i*k) v (.cells (C (l.set i y)))):=by
 intro s id hg
 have hlt:=(List.getElem?_eq_some_iff.1 hx).1
 have hle:i*k+k≤l.length*k:=by have:=Nat.mul_le_mul_right k hlt;rw [Nat.succ_mul] at this;exact this
 cases hi:P.info? e with
 | none=>rw [hi] at hs;cases hs
 | some j =>
   rw [hi] at hs
   have hk:j.size=k:=by simpa using hs
   unfold EG
   rw [hi]
   simp only [hg]
   rw [hv,hk,h.eq,Nat.zero_add,if_pos ⟨h.len y,h1,by rw [DF h.len];exact hle⟩,h.eq]
   congr 3
   unfold Di
   rw [h.len y,LL h.len,show i*k+k=(i+1)*k by rw [Nat.succ_mul],LM h.len,ON y hlt,GN,Dm,List.append_assoc]
theorem UI {β:Type} (zs:List β) (d:β) (hz:zs≠[]):∀ n:Nat,((List.range (n*zs.length)).map fun i=>zs.getD (i % zs.length) d)=(List.replicate n zs).flatten:=by
 have hp:0 < zs.length:=List.length_pos_iff.2 hz
 intro n
 induction n with
 | zero=>simp
 | succ n ih =>
   rw [List.replicate_succ',List.flatten_append,← ih,Nat.succ_mul,List.range_add,List.map_append]
   congr 1
   simp only [List.flatten_cons,List.flatten_nil,List.append_nil]
   apply List.ext_getElem
   · simp
   · intro i h1 h2
     simp only [List.getElem_map,List.getElem_range]
     have:(n*zs.length+i) % zs.length=i:=by
       rw [Nat.add_comm,Nat.add_mul_mod_self_right,Nat.mod_eq_of_lt h2]
     rw [this,List.getD_eq_getElem?_getD,List.getElem?_eq_getElem h2];rfl
theorem GL.made (h:GL f C k) {t elem:TypeId} (hu:P.underlying t=some (.slice elem)) {z:α} (hi:(P.info? elem).map (fun i=>(i.size,decide (i.bytes≤16777216),i.zero.bind fun z=>QY z.cells.toList))=some (k,true,some (f z))) (hk:k≠0) {n:Nat} (hn:n≤16777216):Cd.ok P G (.mkB t (.sc (.int .i64 ((n:Nat):Int))) (.sc (.int .i64 ((n:Nat):Int))) n (.cells (C (List.replicate n z)))):=by
 intro s
 cases hq:P.info? elem with
 | none=>rw [hq] at hi;cases hi
 | some e =>
   rw [hq] at hi
   simp only [Option.map_some,Option.some.injEq,Prod.mk.injEq,decide_eq_true_eq] at hi
   obtain ⟨h1,h2,h3⟩:=hi
   obtain ⟨z0,hz0,hz1⟩:=Option.bind_eq_some_iff.1 h3
   unfold QY at hz1
   obtain ⟨zs,hzs,hzu⟩:=Option.map_eq_some_iff.1 hz1
   have ha:IA (.sc (.int .i64 ((n:Nat):Int)))=some n:=by unfold IA;simp
   have hlen:zs.length=k:=by rw [← h.len z,← hzu,List.length_map]
   have hne:zs≠[]:=fun e=>hk (by rw [← hlen,e];rfl)
   refine ⟨.cells ((List.replicate n zs).flatten),?_,fun cx w o ho=>?_⟩
   · unfold Dz
     rw [hu]
     simp only [hq,ha,hz0,hzs]
     rw [if_pos ⟨trivial,hn,Nat.le_trans (Nat.mul_le_mul hn h2) (by decide),by cases hf:zs with
       | nil=>exact absurd hf hne
       | cons a l=>rfl⟩]
     congr 4
     rw [h1,← hlen,UI _ _ hne]
   · have e:C (List.replicate n z)=((List.replicate n zs).flatten).map Pf:=by
       rw [h.eq]
       unfold rows
       rw [List.flatMap_def,List.map_replicate,← hzu,List.map_flatten,List.map_replicate]
     rw [e]
     cases ho with
     | cellsX ext h1=>exact .cellsX ext (Na h1)
end
end AI
namespace AI
open Go Go.RowKit
section
variable {P:Program} {G:AB}
theorem M6 {f:FuncId} {fn:Func} {c:Code} {args:List AV} {s s0 s2:AS} {m:Nat} {v:AV} (hf:P.funcs[f]?=some fn) (hb:fn.body=some c) (h:W P G (XS P G) H0 c (args++List.replicate (fn.ntmps - args.length) (.sc undef)) s (Kd P fn m (QM G s0 (.ret v) s2))):WC P G (XS P G) H0 f args s (fun r s'=>QM G s0 (.ret v) s2 r (s'.cut m)):=by
 obtain ⟨e,fr1,s1,h1,h2⟩:=h
 cases e with
 | normal=>obtain ⟨v,h3,h4⟩:=h2;exact ⟨_,_,.body hf hb h1 (.inl rfl) h3 (.inr rfl),h4⟩
 | ret=>obtain ⟨v,h3,h4⟩:=h2;exact ⟨_,_,.body hf hb h1 (.inr rfl) h3 (.inr rfl),h4⟩
 | pan v=>obtain ⟨a,ha,_⟩:=h2;cases ha
 | exit id=>exact h2.elim
theorem SJ (hm:P.follows .mixedOrders=true) {f:FuncId} {args:List AV} {s0 s2:AS} {v:AV} {m:Nat} (h:WC P G (XS P G) H0 f args s0 (fun r s'=>QM G s0 (.ret v) s2 r (s'.cut m))):Sound P G (.call f args s0 (.ret v) s2):=by
 obtain ⟨r,s',hj,a,rfl,hf⟩:=h
 have hS:=sound (Lg hm) hj
 intro cx w vs hs hargs
 refine (hS cx w vs hs hargs).mono ?_
 rintro e w' ⟨c',hx,hs',u,rfl,hu⟩
 obtain ⟨c2,x2,st2,f2⟩:=hf cx w c' w' [u] hx hs (hs'.cut m) (.cons hu .nil)
 cases f2 with
 | cons f3 _=>exact ⟨c2,x2,st2,u,rfl,f3⟩
theorem aK (hG:∀ g cs,G g=some cs→AL cs=true) {s s' s2:AS} {fr' fr2:List AV} (hn:s.nx≤s2.nx) (hr:s.nr≤s2.nr) (hn2:s2.nx≤s'.nx) (hr2:s2.nr≤s'.nr)
   (hd:DY s2.h s2.nx) (hbox:∀ id b,look id s2.h=some b→∃ b',look id s'.h=some b'∧Hm s2.nx s2.nr b' b) (hF:∀ r n,BJ r s2.F=some n→BJ r s'.F=some n∧r < s2.nr)
   (hf:Eh s2.nx s2.nr fr' fr2):UR G s fr' s' fr2 s2:=by
 intro cx w c' w' vs hx hs hs' hfr
 have hl1:=hs.len
 have hl2:=hs'.len
 have hl3:=hs.rlen
 have hl4:=hs'.rlen
 have hphi:cx.Bf <+: c'.Bf.take s2.nx:=by
   obtain ⟨t,ht⟩:=hx.Bf
   rw [← ht,List.take_append,List.take_of_length_le (by omega)]
   exact List.prefix_append _ _
 have hrl:(c'.rows.take s2.nr).length=s2.nr:=by rw [List.length_take];omega
 refine ⟨c'.upto s2.nx s2.nr,⟨hphi,?_,fun r x hr' h=>hx.rows r x hr' (B4 h).1,fun g i v hv=>J5 (hx.vis g i v hv),hx.below,hx.base,hx.bad,fun g hg=>hx.pnew g (List.mem_of_mem_take hg),fun r g n cap sz h=>hx.rnew r g n cap sz (B4 h).1,hx.CY⟩,?_,hf _ _ _ hfr⟩
 · show cx.rows.length≤(c'.rows.take s2.nr).length
   omega
 · refine ⟨?_,hd,fun i j g h1 h2=>hs'.nodup i j g (B4 h1).1 (B4 h2).1,fun g hg=>hs'.low g (List.mem_of_mem_take hg),fun id g b h1 h2=>?_,hrl.symm,fun r g n cap sz h=>?_,fun r n h=>?_,fun g hg=>hs'.plow g (List.mem_of_mem_take hg),hs'.blow,fun r r' g n cap sz n' cap' sz' h h'=>hs'.rdist r r' g n cap sz n' cap' sz' (B4 h).1 (B4 h').1,fun g cs hg=>(hs'.glob g cs hg).upto (BU _ _ (hG g cs hg)),hs'.bsz⟩
   · show s2.nx=(c'.Bf.take s2.nx).length
     rw [List.length_take];omega
   · obtain ⟨b',h3,h4⟩:=hbox id b h2
     obtain ⟨o,ho,hb⟩:=hs'.box id g b' (B4 h1).1 h3
     exact ⟨o,ho,h4 _ _ _ hb⟩
   · obtain ⟨a1,a2,a3,a4⟩:=hs'.row r g n cap sz (B4 h).1
     exact ⟨a1,a2,fun hm=>a3 (List.mem_of_mem_take hm),a4⟩
   · obtain ⟨h1,h2⟩:=hF r n h
     rcases hs'.rfree r n h1 with ⟨h3,h4⟩ | ⟨g,cap,sz,h3⟩
     · exact .inl ⟨H9 h3 h2,h4⟩
     · exact .inr ⟨g,cap,sz,H9 h3 h2⟩
theorem YS (hG:∀ g cs,G g=some cs→AL cs=true) {live:List Nat} {n m:Nat} {s0:AS} {fr':List AV} {s':AS} {fps:List (FP n m)} {fbs:List (FB n m)} {fr2:List AV} {s2:AS} (hn:s0.nx≤n) (hr:s0.nr≤m) (hn2:n≤s'.nx) (hr2:m≤s'.nr) (h:gG live n m fr' s' (OC fps) (dD fbs)=some (fr2,s2,RE fps,pK fbs)):UR G s0 fr' s' fr2 s2:=by
 unfold gG at h
 split at h
 · rename_i f1 as hm
   split at h
   · rename_i h1 cas hb
     simp only [Option.some.injEq,Prod.mk.injEq] at h
     obtain ⟨rfl,rfl,rfl,rfl⟩:=h
     intro cx w c' w' vs hx hs hs' hfr
     obtain ⟨hd,hl⟩:=ZY hb
     refine aK (s:=s0) (s2:=⟨h1,n,Lw m s'.F,m⟩) hG hn hr hn2 hr2 (hd _ (Qp hs'.desc)) (fun id b hb=>?_) (fun r n hr=>QV hr) (YW hm) cx w c' w' vs hx hs hs' hfr
     obtain ⟨b',h3,h4⟩:=hl id b hb
     exact ⟨b',JT hs'.desc h3,h4⟩
   · cases h
 · cases h
def oL (n:Nat):List Nat→Bool
 | []=>false
 | k::l=>Nat.beq n k||oL n l
def ML (ks:List Nat):List (Nat×Ap)→List (Nat×Ap)
 | []=>[]
 | e::l=>match oL e.1 ks with
   | true=>e::ML ks l
   | false=>ML ks l
theorem JR {ks:List Nat}:∀ {l:List (Nat×Ap)} {n:Nat},DY l n→DY (ML ks l) n
 | [],_,_=>trivial
 | e::l,n,h=>by
   simp only [ML]
   split
   · exact ⟨h.1,JR h.2⟩
   · exact (JR h.2).mono (Nat.le_of_lt h.1)
theorem JU {ks:List Nat} {id:Nat} {b:Ap}:∀ {l:List (Nat×Ap)} {n:Nat},DY l n→look id (ML ks l)=some b→look id l=some b
 | [],_,_,h=>h
 | e::l,n,hd,h=>by
   simp only [ML] at h
   split at h
   · simp only [look] at h ⊢
     split at h
     · exact h
     · exact JU hd.2 h
   · have h1:=JU hd.2 h
     have h2:=Mf hd.2 h1
     simp only [look]
     split
     · rename_i hb;have:=beq_true hb;omega
     · exact h1
def AS.pick (s:AS) (ks:List Nat):AS:=⟨ML ks s.h,s.nx,s.F,s.nr⟩
theorem St.pick {c:Cx} {w:World} {s:AS} (h:St G c w s) (ks:List Nat):St G c w (s.pick ks) :=
 ⟨h.len,JR h.desc,h.nodup,h.low,fun id g b h1 h2=>h.box id g b h1 (JU h.desc h2),h.rlen,h.row,h.rfree,h.plow,h.blow,h.rdist,h.glob,h.bsz⟩
def dS (ks:List Nat) (live:List Nat) (n m0:Nat) (P:Program) (fn:Func) (m:Nat) (bs:List AV) (cs:List Ap):HR→Option (List Cd×List AV×AS×List AV×List Ap)
 | some (.fin .ret,[],cd,fr,s)=>(match Cm P s fn fr with
   | some v=>(match Nat.ble n s.nx&&Nat.ble m0 s.nr with
     | true=>(match gG live n m0 [v] ((s.cut m).pick ks) bs cs with
       | some (fr2,s2,as,cas)=>some (cd,fr2,s2,as,cas)
       | none=>none)
     | false=>none)
   | none=>none)
 | _=>none
theorem P1 (hG:∀ g cs,G g=some cs→AL cs=true) {r:HR} {X:Prop} {s0:AS} {Q:AX→List AV→AS→Prop} (fn:Func) (m:Nat) {l:List (PC P G)} (ks:List Nat) (live:List Nat) {n m0:Nat} (fps:List (FP n m0)) (fbs:List (FB n m0)) (v:AV) (s2:AS) (R:L5 P G l Q r X) (hn:s0.nx≤n) (hr:s0.nr≤m0)
   (h:dS ks live n m0 P fn m (OC fps) (dD fbs) r=some (Uq l,[v],s2,RE fps,pK fbs)) (k:Hs P G fn m s0 Q v s2):X:=by
 unfold dS at h
 split at h
 · split at h
   · rename_i v' hv
     split at h
     · rename_i hle
       simp only [Bool.and_eq_true] at hle
       split at h
       · rename_i h1
         simp only [Option.some.injEq,Prod.mk.injEq] at h
         obtain ⟨rfl,rfl,rfl,rfl,rfl⟩:=h
         exact R _ _ _ _ rfl (Hf l) (k _ _ (fun cx w c' w' vs hx hs hs' hf=>YS (s':=(AS.cut _ m).pick ks) hG hn hr (Nat.le_of_ble_eq_true hle.1) (Nat.le_of_ble_eq_true hle.2) h1 cx w c' w' vs hx hs (hs'.pick ks) hf) _ _ hv rfl)
       · cases h
     · cases h
   · cases h
 · cases h
inductive eW (dn dr nx nr:Nat):List (Nat×Ap)→List (Nat×Ap)→Prop where
 | nil:eW dn dr nx nr [] []
 | cons {i:Nat} {b b':Ap} {l m:List (Nat×Ap)} (h:Ue dn dr (fun i=>nx+i) (fun r=>nr+r) b b') (t:eW dn dr nx nr l m):eW dn dr nx nr ((i,b)::l) ((nx+i,b')::m)
theorem eW.desc {dn dr nx nr:Nat} {l m h:List (Nat×Ap)} (hr:eW dn dr nx nr l m) (hh:DY h nx):∀ {n:Nat},DY l n→DY (m++h) (nx+n):=by
 induction hr with
 | nil=>intro n _;exact hh.mono (Nat.le_add_right _ _)
 | cons h1 t ih=>intro n hd;exact ⟨Nat.add_lt_add_left hd.1 _,ih hd.2⟩
theorem eW.look {dn dr nx nr id:Nat} {b:Ap} {l m h:List (Nat×Ap)} (hr:eW dn dr nx nr l m) (hb:AI.look id (m++h)=some b):(∃ i b0,id=nx+i∧AI.look i l=some b0∧Ue dn dr (fun i=>nx+i) (fun r=>nr+r) b0 b)∨AI.look id h=some b:=by
 induction hr with
 | nil=>exact .inr hb
 | @cons i b0 b1 l m h1 t ih =>
   simp only [List.cons_append,AI.look] at hb
   split at hb
   · rename_i he
     cases hb
     refine .inl ⟨i,b0,(beq_true he).symm,?_,h1⟩
     simp only [AI.look]
     rw [Nat.beq_refl]
   · rename_i he
     have hne:=beq_false he
     rcases ih hb with ⟨i',b',e,h2,h3⟩ | h2
     · refine .inl ⟨i',b',e,?_,h3⟩
       simp only [AI.look]
       split
       · rename_i h4;have:=beq_true h4;omega
       · exact h2
     · exact .inr h2
theorem UO {nr r n:Nat} {F:List (Nat×Nat)}:∀ {F2:List (Nat×Nat)},BJ r (F2.map (fun p=>(nr+p.1,p.2))++F)=some n→(∃ q,r=nr+q∧BJ q F2=some n)∨BJ r F=some n:=by
 intro F2
 induction F2 with
 | nil=>exact fun h=>.inr h
 | cons x l ih =>
   intro h
   simp only [List.map_cons,List.cons_append,BJ] at h
   split at h
   · rename_i he
     cases h
     refine .inl ⟨x.1,(beq_true he).symm,?_⟩
     simp only [BJ]
     rw [Nat.beq_refl]
   · rename_i he
     have hne:=beq_false he
     rcases ih h with ⟨q,e,h2⟩ | h2
     · refine .inl ⟨q,e,?_⟩
       simp only [BJ]
       split
       · rename_i h4;have:=beq_true h4;omega
       · exact h2
     · exact .inr h2
theorem SC (hG:∀ g cs,G g=some cs→AL cs=true) {f:FuncId} {args:List AV} {v v':AV} {h2 h3:List (Nat×Ap)} {dn dr nx nr:Nat} {F2:List (Nat×Nat)} (h:Sound P G (.call f args ⟨[],0,[],0⟩ (.ret v) ⟨h2,dn,F2,dr⟩)) (hp:AL args=true)
   (hv:Rn dn dr (fun i=>nx+i) (fun r=>nr+r) v v') (hb:eW dn dr nx nr h2 h3):Cd.ok P G (.callN f args nx nr v' h3 dn (F2.map fun p=>(nr+p.1,p.2)) dr):=by
 intro s hnx hnr cx w vs hs ha
 subst hnx hnr
 have hlp:=hs.len
 have hlr:=hs.rlen
 have hvis:∀ g i x,EM cx w g i x→EM ⟨w.heap.size,[],[],cx.LA⟩ w g i x:=by
   intro g i x hx
   refine ⟨hx.1,fun hsh=>?_,hx.2.2⟩
   rcases hsh with hsh | ⟨r,n,cap,sz,hr,_⟩ | hsh
   · cases hsh
   · simp at hr
   · exact hx.2.1 hsh
 have hst:St G ⟨w.heap.size,[],[],cx.LA⟩ w ⟨[],0,[],0⟩ :=
   ⟨rfl,trivial,(fun i j g h1=>by simp at h1),(fun g hg=>by cases hg),(fun id g b h1=>by simp at h1),rfl,(fun r g n cap sz hr=>by simp at hr),(fun r n hr=>by cases hr),(fun g hg=>by cases hg),(fun g i hb=>hs.Ib hb),(fun r r' g n cap sz n' cap' sz' hr=>by simp at hr),(fun g cs hg=>AA.plain hvis (hG g cs hg) (hs.glob g cs hg)),Nat.le_refl _⟩
 refine (h _ w vs hst (A6.plain hvis hp ha)).mono ?_
 rintro e w' ⟨c',hx,hs',u,rfl,hu⟩
 have hbel:=hx.below
 have hchg:KL w w' (fun _=>False):=⟨hbel.os,hbel.tape,hbel.output,hbel.size,fun k hk _=>hbel.block k hk⟩
 have hpn:∀ g,some g∈c'.Bf→w.heap.size≤g:=fun g hg=>(hx.pnew g hg).resolve_left (by simp)
 have hrn:∀ (r:Nat) g n cap sz,c'.rows[r]?=some (.blk g n cap sz)→w.heap.size≤g:=fun r g n cap sz hg=>(hx.rnew r g n cap sz hg).resolve_left (by rintro ⟨_,_,_,_,hh⟩;simp at hh)
 have hl2:dn=c'.Bf.length:=hs'.len
 have hr2:dr=c'.rows.length:=hs'.rlen
 let c1:Cx:=⟨cx.base,cx.Bf++c'.Bf,cx.rows++c'.rows,cx.bad⟩
 have hpu:∀ (i:Nat) g,c'.Bf[i]?=some (some g)→c1.Bf[s.nx+i]?=some (some g):=fun i g hg=>by
   show (cx.Bf++c'.Bf)[s.nx+i]?=_
   rw [List.getElem?_append_right (by omega),show s.nx+i - cx.Bf.length=i by omega];exact hg
 have hru:∀ (r:Nat) x,c'.rows[r]?=some x→c1.rows[s.nr+r]?=some x:=fun r x hg=>by
   show (cx.rows++c'.rows)[s.nr+r]?=_
   rw [List.getElem?_append_right (by omega),show s.nr+r - cx.rows.length=r by omega];exact hg
 have hpc:∀ (i:Nat) g,c1.Bf[i]?=some (some g)→(i < s.nx∧cx.Bf[i]?=some (some g))∨∃ k,i=s.nx+k∧c'.Bf[k]?=some (some g):=fun i g hg=>by
   have hg:(cx.Bf++c'.Bf)[i]?=some (some g):=hg
   by_cases hi:i < cx.Bf.length
   · rw [List.getElem?_append_left hi] at hg;exact .inl ⟨by omega,hg⟩
   · rw [List.getElem?_append_right (by omega)] at hg;exact .inr ⟨i - cx.Bf.length,by omega,hg⟩
 have hrc:∀ (i:Nat) x,c1.rows[i]?=some x→(i < s.nr∧cx.rows[i]?=some x)∨∃ k,i=s.nr+k∧c'.rows[k]?=some x:=fun i x hg=>by
   have hg:(cx.rows++c'.rows)[i]?=some x:=hg
   by_cases hi:i < cx.rows.length
   · rw [List.getElem?_append_left hi] at hg;exact .inl ⟨by omega,hg⟩
   · rw [List.getElem?_append_right (by omega)] at hg;exact .inr ⟨i - cx.rows.length,by omega,hg⟩
 have hmc:∀ g,some g∈c1.Bf→some g∈cx.Bf∨some g∈c'.Bf:=fun g hg=>List.mem_append.1 hg
 have hbad:∀ g i,cx.LA g i→c'.LA g i:=fun g i hh=>.inr (.inr (by rw [hx.bad];exact hh))
 have hvis':∀ g i x,EM c' w' g i x→EM c1 w' g i x:=by
   intro g i x hvv
   refine ⟨hvv.1,fun hsh=>hvv.2.1 ?_,hvv.2.2⟩
   rcases hsh with hsh | ⟨q,n,cap,sz,hq,h1,h2⟩ | hsh
   · rcases hmc g hsh with hm | hm
     · exact hbad _ _ (.inl hm)
     · exact .inl hm
   · rcases hrc q _ hq with ⟨_,h3⟩ | ⟨k,_,h3⟩
     · exact hbad _ _ (.inr (.inl ⟨q,n,cap,sz,h3,h1,h2⟩))
     · exact .inr (.inl ⟨k,n,cap,sz,h3,h1,h2⟩)
   · exact hbad _ _ (.inr (.inr hsh))
 have ext:Ext cx w c1 w':=by
   refine ⟨List.prefix_append _ _,by simp [c1],fun q y hq hy=>?_,fun g i x hv=>hvis' g i x (hx.vis g i x (hvis g i x hv)),hchg.below hs.bsz (fun _ hf=>hf.elim),rfl,rfl,fun g hg=>?_,fun q g n cap sz hq=>?_,fun q hq hp hr=>hchg.block q hq (fun hf=>hf)⟩
   · rcases hrc q y hy with ⟨_,h3⟩ | ⟨k,h3,_⟩
     · exact ⟨y,h3,Es.refl y⟩
     · omega
   · rcases hmc g hg with hm | hm
     · exact .inl hm
     · exact .inr (hpn g hm)
   · rcases hrc q _ hq with ⟨_,h3⟩ | ⟨k,_,h3⟩
     · exact .inl ⟨_,_,_,_,h3⟩
     · exact .inr (hrn _ _ _ _ _ h3)
 have hup:Up dn dr (fun i=>s.nx+i) (fun r=>s.nr+r) c' w' c1 w':=⟨hvis',fun i g _ hg=>hpu i g hg,fun q hq=>by
   have hq:q < c'.rows.length:=by omega
   exact ⟨_,hru q _ (List.getElem?_eq_getElem hq),List.getElem?_eq_getElem hq⟩⟩
 have st1:St G c1 w' ⟨h3++s.h,s.nx+dn,F2.map (fun p=>(s.nr+p.1,p.2))++s.F,s.nr+dr⟩:=by
   refine ⟨by simp only [c1,List.length_append];omega,hb.desc hs.desc hs'.desc,fun i j g h1 h2=>?_,fun g hg=>?_,fun id g b h1 h2=>?_,by simp only [c1,List.length_append];omega,fun q g n cap sz hq=>?_,fun q n hq=>?_,fun g hg=>?_,fun g i hb=>Nat.lt_of_lt_of_le (hs.blow g i hb) hchg.size,fun q q' g n cap sz n' cap' sz' h1 h2=>?_,fun g cs hg'=>(hs.glob g cs hg').mono ext,Nat.le_trans hs.bsz hchg.size⟩
   · rcases hpc i g h1 with ⟨_,a1⟩ | ⟨k,rfl,a1⟩<;>rcases hpc j g h2 with ⟨_,a2⟩ | ⟨k2,rfl,a2⟩
     · exact hs.nodup _ _ _ a1 a2
     · have:=hs.Fe (List.mem_of_getElem? a1);have:=hpn g (List.mem_of_getElem? a2);omega
     · have:=hs.Fe (List.mem_of_getElem? a2);have:=hpn g (List.mem_of_getElem? a1);omega
     · rw [hs'.nodup _ _ _ a1 a2]
   · rcases hmc g hg with hm | hm
     · exact hs.low g hm
     · exact Nat.le_trans hs.bsz (hpn g hm)
   · rcases hb.look h2 with ⟨i,b0,rfl,h4,h5⟩ | h4
     · rcases hpc _ g h1 with ⟨a0,_⟩ | ⟨k,a0,a1⟩
       · omega
       · have:k=i:=by omega
         subst this
         obtain ⟨o,ho,hbo⟩:=hs'.box k g b0 a1 h4
         exact ⟨o,ho,h5.up hup hbo⟩
     · have hlt:=Mf hs.desc h4
       rcases hpc _ g h1 with ⟨_,a1⟩ | ⟨k,a0,_⟩
       · obtain ⟨o,ho,hbo⟩:=hs.box id g b a1 h4
         refine ⟨o,?_,hbo.mono ext⟩
         rw [hchg.block g (Array.getElem?_eq_some_iff.1 ho).1 (fun hf=>hf)]
         exact ho
       · omega
   · rcases hrc q _ hq with ⟨_,h3⟩ | ⟨k,_,h3⟩
     · obtain ⟨a1,a2,a3,a4,vs',T,a5,a6⟩:=hs.row _ _ _ _ _ h3
       refine ⟨a1,a2,fun hm=>?_,a4,vs',T,?_,a6⟩
       · rcases hmc g hm with hm | hm
         · exact a3 hm
         · have:=hpn g hm;have:=hs.FZ h3;omega
       · rw [hchg.block g (Array.getElem?_eq_some_iff.1 a5).1 (fun hf=>hf)]
         exact a5
     · obtain ⟨a1,a2,a3,a4,a5⟩:=hs'.row _ _ _ _ _ h3
       have hge:=hrn _ _ _ _ _ h3
       refine ⟨fun i hb=>?_,Nat.le_trans hs.bsz hge,fun hm=>?_,a4,a5⟩
       · have:=hs.blow _ _ hb;omega
       · rcases hmc g hm with hm | hm
         · have:=hs.Fe hm;omega
         · exact a3 hm
   · rcases UO hq with ⟨k,rfl,h4⟩ | h4
     · rcases hs'.rfree k n h4 with ⟨h5,h6⟩ | ⟨g,cap,sz,h5⟩
       · exact .inl ⟨hru _ _ h5,h6⟩
       · exact .inr ⟨g,cap,sz,hru _ _ h5⟩
     · have key:∀ x,cx.rows[q]?=some x→c1.rows[q]?=some x:=fun x hh=>by
         show (cx.rows++c'.rows)[q]?=_
         rw [List.getElem?_append_left (List.getElem?_eq_some_iff.1 hh).1];exact hh
       rcases hs.rfree q n h4 with ⟨h5,h6⟩ | ⟨g,cap,sz,h5⟩
       · exact .inl ⟨key _ h5,h6⟩
       · exact .inr ⟨g,cap,sz,key _ h5⟩
   · rcases hmc g hg with hm | hm
     · exact Nat.lt_of_lt_of_le (hs.plow g hm) hchg.size
     · exact hs'.plow g hm
   · rcases hrc q _ h1 with ⟨_,a1⟩ | ⟨k,rfl,a1⟩<;>rcases hrc q' _ h2 with ⟨_,a2⟩ | ⟨k2,rfl,a2⟩
     · exact hs.rdist _ _ _ _ _ _ _ _ _ a1 a2
     · have:=hs.FZ a1;have:=hrn _ _ _ _ _ a2;omega
     · have:=hs.FZ a2;have:=hrn _ _ _ _ _ a1;omega
     · rw [hs'.rdist _ _ _ _ _ _ _ _ _ a1 a2]
 exact ⟨c1,ext,st1,u,rfl,hv.up hup hu⟩
def Nb {f:FuncId} {args:List AV} {nx nr:Nat} {v:AV} {h:List (Nat×Ap)} {dn:Nat} {F:List (Nat×Nat)} {dr:Nat} (h1:Cd.ok P G (.callN f args nx nr v h dn F dr)):PC P G :=
 ⟨.cn v h dn F dr,[.callN f args nx nr v h dn F dr],⟨h1,trivial⟩⟩
end
end AI
namespace AI
open Go Go.RowKit
section
variable {P:Program} {G:AB}
theorem GL.YB {α:Type} {f:α→List AV} {C:List α→List AV} {k:Nat} (h:GL f C k) (h1:∀ x,(f x).all one=true) (m:List α):(C m).all one=true:=by
 rw [h.eq,List.all_eq_true]
 intro a ha
 obtain ⟨x,_,hx⟩:=List.mem_flatMap.1 ha
 exact List.all_eq_true.1 (h1 x) a hx
theorem GL.ga {α:Type} {f:α→List AV} {C:List α→List AV} {k:Nat} (h:GL f C k) {t tx e e2 by':Nat} (hu:P.underlying t=some (.slice e)) (hux:P.underlying tx=some (.slice e2)) (hi:(P.info? e).map (fun i=>(i.size,i.bytes,i.zero.map (·.cells.size)))=some (k,by',some k)) (hk:0 < k) (hb:by'≤10000)
   (own:Own) (l m:List α) {o:Own} (s:AS) (hm:m.length=0) (hlen:l.length+m.length≤100000000):Cd.ok P G (.LW s t tx (.sl own l.length (C l)) (.sl o m.length (C m)) (.sl own l.length (C l)) s):=by
 have hm0:m=[]:=List.eq_nil_of_length_eq_zero hm
 subst hm0
 cases hq:P.info? e with
 | none=>rw [hq] at hi;cases hi
 | some i =>
   rw [hq] at hi
   simp only [Option.map_some,Option.some.injEq,Prod.mk.injEq] at hi
   obtain ⟨h1,h2,h3⟩:=hi
   cases hz:i.zero with
   | none=>rw [hz] at h3;cases h3
   | some z =>
     rw [hz] at h3
     simp only [Option.map_some,Option.some.injEq] at h3
     have hc:C []=[]:=by rw [h.eq];rfl
     have hll:(C l).length=l.length*k:=by rw [h.eq,DF h.len]
     refine ⟨.sl own l.length (C l),?_,fun c w u hr=>hr⟩
     have hs:LZ P s i.size tx (.sl o ([]:List α).length (C []))=some (0,[]):=by
       unfold LZ
       rw [hux,hc]
       simp
     unfold Fy
     simp only [hu,hq,hz]
     rw [if_pos ⟨by rw [h3,h1],by omega⟩,hs]
     simp only [List.length_nil] at hlen ⊢
     have hbb:(l.length+0)*i.bytes≤140737488355328:=by
       rw [h2]
       exact Nat.le_trans (Nat.mul_le_mul hlen hb) (by decide)
     rw [if_pos ⟨by rw [hll,h1],rfl,hbb,by omega⟩,if_pos trivial]
theorem kG {t tx e:TypeId} {i:TypeInfo} {z:Value} {b:AV} {m:Nat} {ns:List AV} (ht:P.underlying t=some (.slice e)) (hi:P.info? e=some i) (hz:i.zero=some z) (hsrc:∀ s,LZ P s i.size tx b=some (m,ns)) (hm:m≠0) (ho:ns.all one=true) (hb:m*i.bytes≤140737488355328) (hl:m≤9223372036854775807) (s:AS):iR P G t tx (.sl .full 0 []) b s (.msl s.nx 0 m) (s.new (.cells ns)):=by
 intro c w va vb ty hs ha hbv
 obtain ⟨news,hnr,hnl,hsi⟩:=O5 hs (hsrc s) hbv
 have hcap:∃ A,va=.slice A 0 0:=by
   cases ha with
   | @sl0 _ A cap h0=>have:cap=0:=h0;subst this;exact ⟨A,rfl⟩
   | @sl1 _ _ cap g o _ hn hc ho=>have:cap=0:=ho;subst this;exact ⟨_,rfl⟩
 obtain ⟨A,rfl⟩:=hcap
 have hold:(Builtin.firstCells i.size 0 (.slice A 0 0)).run P { w with drawn:=w.drawn+1 }=.ok ([]:List Value).toArray { w with drawn:=w.drawn+1 }:=by
   cases A with
   | none=>simp [Builtin.firstCells]
   | some a=>simp [Builtin.firstCells,loadCells,loadCellsFrom]
 obtain ⟨cap',hcap',hrun⟩:=Ii (ty:=ty) ht hi hz hsi hold (by omega) (by omega) (by rw [Nat.zero_add];exact hb)
 rw [Nat.zero_add] at hcap' hrun
 obtain ⟨x1,st1⟩:=hs.same (w':={ w with drawn:=w.drawn+1 }) ⟨rfl,rfl,rfl,Nat.le_refl _,fun _ _ _=>rfl⟩
 have hbk:B1 c { w with drawn:=w.drawn+1 } (.cells ns) (.cells (news++(Builtin.zeroCells z.cells (cap' - m)).toList).toArray e (0,0)):=.cellsX _ (hnr.mono x1)
 obtain ⟨x2,st2⟩:=st1.new hbk
 have he:(([]++news).toArray++Builtin.zeroCells z.cells (cap' - m))=(news++(Builtin.zeroCells z.cells (cap' - m)).toList).toArray:=by
   apply Array.ext'
   simp
 rw [he] at hrun
 exact ⟨_,_,_,hrun,x1.trans x2,st2,.msl hcap' (by simp [hs.len])⟩
def pga {s:AS} {t tx:TypeId} {a b:AV} (h:Cd.ok P G (.LW s t tx a b a s)):PC P G:=⟨.a a s,[.LW s t tx a b a s],⟨h,trivial⟩⟩
end
end AI
namespace AI
open Go Go.RowKit
def eF:Nat→Nat→List Nat→List Nat
 | 0,_,acc=>acc
 | k+1,n,acc=>match Nat.ble n 1 with
   | true=>acc
   | false=>eF k (n / 2) (n % 2::acc)
def sb (c:Code) (n:Nat):Code:=sub c (eF 200 n [])
def tX (a:AV):AV→AV
 | .any=>Su a
 | .sl .lost _ _=>(match a with
   | .sl _ n cs=>.sl .lost n cs
   | a=>a)
 | _=>a
theorem kO {c:Cx} {w:World} {a b:AV} {v:Value} (hr:Rp c w a v):Rp c w (tX a b) v:=by
 unfold tX
 split
 · exact Vd hr
 · split
   · cases hr with
     | sl0 _=>exact .sl0 trivial
     | sl1 hn hc _=>exact .sl1 hn hc trivial
   · exact hr
 · exact hr
def eZ:List AV→List AV→List AV
 | a::l,b::k=>tX a b::eZ l k
 | l,_=>l
theorem JX {c:Cx} {w:World}:∀ {l k:List AV} {vs:List Value},A6 c w l vs→A6 c w (eZ l k) vs
 | [],k,_,h=>by cases k<;>exact h
 | a::l,[],_,h=>h
 | a::l,b::k,_,h=>by cases h with | cons h1 t=>exact .cons (kO h1) (JX t)
def SY (n:Nat):AV→Bool
 | .fn _ a b=>obvL a&&obvL b
 | a=>mS n a
where
 obvL:List AV→Bool
   | []=>true
   | a::l=>mS n a&&obvL l
theorem L6 {n m:Nat}:∀ {l:List AV},SY.obvL n l=true→B3 n m l=true
 | [],_=>rfl
 | a::l,h=>by
   simp only [SY.obvL,Bool.and_eq_true] at h
   simp only [B3,Bool.and_eq_true]
   refine ⟨?_,L6 h.2⟩
   have h1:=h.1
   cases a<;>simp only [mS] at h1<;>first | rfl | (cases h1;done) | exact decide_eq_true (Nat.le_of_ble_eq_true h1)
theorem YX {n m:Nat} {a:AV} (h:SY n a=true):Fits n m a a:=by
 cases a with
 | fn f a b =>
   simp only [SY,Bool.and_eq_true] at h
   exact .under (by simp only [under,Bool.and_eq_true];exact ⟨L6 h.1,L6 h.2⟩)
 | _=>exact V2 h
def SI (r:List AV→MR) (n:Nat) (a:AV) (bs:List AV):MR:=match SY n a with
 | true=>Om a (r bs)
 | false=>none
def N8 (n:Nat):List AV→List AV→List AV→MR
 | [],_,[]=>some ([],[])
 | [],_,_::_=>none
 | a::l,[],bs=>Oz (N8 n l []) a bs
 | a::l,b::k,bs=>match IS b with
   | true=>Oz (N8 n l k) a bs
   | false=>(match SY n b with
     | true=>SI (N8 n l k) n a bs
     | false=>cM (N8 n l k) a bs)
theorem UK {n m:Nat} {r:List AV→MR} {l:List AV} (hr:∀ (fps:List (FP n m)) l2,r (OC fps)=some (l2,RE fps)→Eh n m l l2) {a:AV} {fps:List (FP n m)} {l2:List AV} (h:SI r n a (OC fps)=some (l2,RE fps)):Eh n m (a::l) l2:=by
 unfold SI at h
 split at h
 · rename_i ho
   unfold Om at h
   split at h
   · rename_i l3 as h1
     cases h
     exact .cons (YX ho) (hr fps _ h1)
   · cases h
 · cases h
theorem cJ {n m:Nat}:∀ {l k:List AV} {fps:List (FP n m)} {l2:List AV},N8 n l k (OC fps)=some (l2,RE fps)→Eh n m l l2:=by
 intro l
 induction l with
 | nil =>
   intro k fps l2 h
   cases fps with
   | nil=>simp only [OC,N8] at h;cases h;exact .nil
   | cons p fps=>simp only [OC,N8] at h;cases h
 | cons a l ih =>
   intro k fps l2 h
   cases k with
   | nil=>simp only [N8] at h;exact Kf (fun fps l2 h=>ih h) h
   | cons b k =>
     simp only [N8] at h
     split at h
     · exact Kf (fun fps l2 h=>ih h) h
     · split at h
       · exact UK (fun fps l2 h=>ih h) h
       · exact Uc (fun fps l2 h=>ih h) h
abbrev FO (n m:Nat):=Option (FB n m)
def YL {n m:Nat}:List (FO n m)→List (Option Ap)
 | []=>[]
 | none::l=>none::YL l
 | some p::l=>some p.a::YL l
def Vt {n m:Nat}:List (FO n m)→List (Option Ap)
 | []=>[]
 | none::l=>none::Vt l
 | some p::l=>some p.b::Vt l
def vN (n:Nat):Ap→Bool
 | .cells cs=>SY.obvL n cs
 | _=>false
abbrev BO:=Option (List (Nat×Ap)×List (Option Ap))
def TR (id:Nat) (a:Option Ap) (b:Ap):BO→BO
 | some (l,as)=>some ((id,b)::l,a::as)
 | none=>none
def N3 (n:Nat):List (Nat×Ap)→List (Option Ap)→BO
 | [],[]=>some ([],[])
 | e::l,none::bs=>(match vN n e.2 with
   | true=>TR e.1 none e.2 (N3 n l bs)
   | false=>none)
 | e::l,some b::bs=>TR e.1 (some e.2) b (N3 n l bs)
 | _,_=>none
theorem Zd {n m:Nat}:∀ {l:List (Nat×Ap)} {fbs:List (FO n m)} {l2:List (Nat×Ap)},N3 n l (Vt fbs)=some (l2,YL fbs)→(∀ k,DY l k→DY l2 k)∧∀ id b,look id l2=some b→∃ b',look id l=some b'∧Hm n m b' b:=by
 intro l
 induction l with
 | nil =>
   intro fbs l2 h
   cases fbs with
   | nil=>simp only [Vt,N3] at h;cases h;exact ⟨fun _ _=>trivial,fun id b h=>by cases h⟩
   | cons p fbs=>cases p<;>(simp only [Vt,N3] at h;cases h)
 | cons e l ih =>
   intro fbs l2 h
   have fin:∀ {fbs:List (FO n m)} {l3:List (Nat×Ap)} {b2:Ap},N3 n l (Vt fbs)=some (l3,YL fbs)→Hm n m e.2 b2→(∀ k,DY (e::l) k→DY ((e.1,b2)::l3) k)∧∀ id b,look id ((e.1,b2)::l3)=some b→∃ b',look id (e::l)=some b'∧Hm n m b' b:=by
     intro fbs l3 b2 h1 hf
     obtain ⟨hd,hl⟩:=ih h1
     refine ⟨fun k hk=>⟨hk.1,hd _ hk.2⟩,fun id b hb=>?_⟩
     simp only [look] at hb ⊢
     split at hb
     · cases hb;exact ⟨e.2,rfl,hf⟩
     · exact hl id b hb
   cases fbs with
   | nil=>simp only [Vt,N3] at h;cases h
   | cons p fbs =>
     cases p with
     | none =>
       simp only [Vt,N3] at h
       split at h
       · rename_i ho
         unfold TR at h
         split at h
         · rename_i l3 as h1
           simp only [YL,Option.some.injEq,Prod.mk.injEq,List.cons.injEq,true_and] at h
           obtain ⟨rfl,rfl⟩:=h
           refine fin h1 ?_
           cases he:e.2 with
           | cells cs=>rw [he] at ho;exact .cells (.under (L6 ho))
           | _=>rw [he] at ho;cases ho
         · cases h
       · cases h
     | some p =>
       simp only [Vt,N3] at h
       unfold TR at h
       split at h
       · rename_i l3 as h1
         simp only [YL,Option.some.injEq,Prod.mk.injEq,List.cons.injEq] at h
         obtain ⟨rfl,h2,rfl⟩:=h
         exact fin h1 (by rw [h2];exact p.h)
       · cases h
abbrev RO2:=Option (List AV×AS×List AV×List (Option Ap))
def aS (tgt:List AV) (n m:Nat) (fr':List AV) (s':AS) (bs:List AV) (cs:List (Option Ap)):RO2 :=
 match N8 n fr' tgt bs with
 | some (fr2,as)=>(match N3 n (Jt n s'.h) cs with
   | some (h2,cas)=>some (fr2,⟨h2,n,Lw m s'.F,m⟩,as,cas)
   | none=>none)
 | none=>none
section
variable {P:Program} {G:AB}
theorem O6 (hG:∀ g cs,G g=some cs→AL cs=true) {tgt:List AV} {s0:AS} {fr':List AV} {s':AS} {fps:List (FP s0.nx s0.nr)} {fbs:List (FO s0.nx s0.nr)} {fr2:List AV} {s2:AS} (h:aS tgt s0.nx s0.nr fr' s' (OC fps) (Vt fbs)=some (fr2,s2,RE fps,YL fbs)):UR G s0 fr' s' fr2 s2:=by
 unfold aS at h
 split at h
 · rename_i f1 as hm
   split at h
   · rename_i h1 cas hb
     simp only [Option.some.injEq,Prod.mk.injEq] at h
     obtain ⟨rfl,rfl,rfl,rfl⟩:=h
     intro cx w c' w' vs hx hs hs' hfr
     obtain ⟨hd,hl⟩:=Zd hb
     refine cE (s:=s0) (s2:=⟨h1,s0.nx,Lw s0.nr s'.F,s0.nr⟩) hG rfl rfl (hd _ (Qp hs'.desc)) (fun id b hb=>?_) (fun r n hr=>QV hr) (cJ hm) cx w c' w' vs hx hs hs' hfr
     obtain ⟨b',h3,h4⟩:=hl id b hb
     exact ⟨b',JT hs'.desc h3,h4⟩
   · cases h
 · cases h
theorem UR.wk {s0 s':AS} {fr' k:List AV}:UR G s0 fr' s' (eZ fr' k) s':=fun _ _ c' _ _ hx _ hs' hfr=>⟨c',hx,hs',JX hfr⟩
def RY (tgt:List AV):HR→Option (AX×List Cd×List AV×AS)
 | some (.fin e,[],cd,fr,s)=>some (e,cd,eZ fr tgt,s)
 | _=>none
theorem KE {r:HR} {X:Prop} {L:Code} {s0:AS} {Q:AX→List AV→AS→Prop} {l:List (PC P G)} {fr2:List AV} {s2:AS} (R:L5 P G l (K1 P G L s0 Q) r X) (h:RY fr2 r=some (.normal,Uq l,fr2,s2)) (k:WL P G (XS P G) H0 L fr2 s2 Q):X:=by
 unfold RY at h
 split at h
 · simp only [Option.some.injEq,Prod.mk.injEq] at h
   obtain ⟨rfl,rfl,h3,rfl⟩:=h
   exact R _ _ _ _ rfl (Hf l) ⟨_,_,h3▸UR.wk,k⟩
 · cases h
theorem DQ {r:HR} {X:Prop} {L:Code} {s0:AS} {Q:AX→List AV→AS→Prop} {l:List (PC P G)} {id:Nat} {fr2:List AV} {s2:AS} (R:L5 P G l (K1 P G L s0 Q) r X) (h:RY fr2 r=some (.exit id,Uq l,fr2,s2)) (k:Q (.exit id) fr2 s2):X:=by
 unfold RY at h
 split at h
 · simp only [Option.some.injEq,Prod.mk.injEq] at h
   obtain ⟨rfl,rfl,h3,rfl⟩:=h
   exact R _ _ _ _ rfl (Hf l) ⟨_,_,h3▸UR.wk,k⟩
 · cases h
def eM (tgt:List AV) (n m:Nat) (bs:List AV) (cs:List (Option Ap)):HR→Option (AX×List Cd×List AV×AS×List AV×List (Option Ap))
 | some (.fin e,[],cd,fr,s)=>(match aS tgt n m fr s bs cs with
   | some (fr2,s2,as,cas)=>some (e,cd,fr2,s2,as,cas)
   | none=>none)
 | _=>none
theorem BS (hG:∀ g cs,G g=some cs→AL cs=true) {r:HR} {X:Prop} {L:Code} {s0:AS} {Q:AX→List AV→AS→Prop} {l:List (PC P G)} (fps:List (FP s0.nx s0.nr)) (fbs:List (FO s0.nx s0.nr)) {fr2:List AV} {s2:AS} (R:L5 P G l (K1 P G L s0 Q) r X)
   (h:eM fr2 s0.nx s0.nr (OC fps) (Vt fbs) r=some (.normal,Uq l,fr2,s2,RE fps,YL fbs)) (k:WL P G (XS P G) H0 L fr2 s2 Q):X:=by
 unfold eM at h
 split at h
 · split at h
   · rename_i h1
     simp only [Option.some.injEq,Prod.mk.injEq] at h
     obtain ⟨rfl,rfl,rfl,rfl,rfl,rfl⟩:=h
     exact R _ _ _ _ rfl (Hf l) ⟨_,_,O6 hG h1,k⟩
   · cases h
 · cases h
def ZZ (n m0:Nat) (P:Program) (fn:Func) (m:Nat) (e0:AX) (tgt bs:List AV) (cs:List (Option Ap)):HR→Option (AX×List Cd×List AV×AS×List AV×List (Option Ap))
 | some (.fin e,[],cd,fr,s)=>(match Cm P s fn fr with
   | some v=>(match aS tgt n m0 [v] (s.cut m) bs cs with
     | some (fr2,s2,as,cas)=>some (e,cd,fr2,s2,as,cas)
     | none=>none)
   | none=>none)
 | _=>none
theorem Am (hG:∀ g cs,G g=some cs→AL cs=true) {r:HR} {X:Prop} {s0:AS} {Q:AX→List AV→AS→Prop} (fn:Func) (m:Nat) {l:List (PC P G)} (fps:List (FP s0.nx s0.nr)) (fbs:List (FO s0.nx s0.nr)) {v:AV} {s2:AS} (R:L5 P G l Q r X)
   (h:ZZ s0.nx s0.nr P fn m .ret [v] (OC fps) (Vt fbs) r=some (.ret,Uq l,[v],s2,RE fps,YL fbs)) (k:Hs P G fn m s0 Q v s2):X:=by
 unfold ZZ at h
 split at h
 · split at h
   · rename_i v' hv
     split at h
     · rename_i h1
       simp only [Option.some.injEq,Prod.mk.injEq] at h
       obtain ⟨rfl,rfl,rfl,rfl,rfl,rfl⟩:=h
       exact R _ _ _ _ rfl (Hf l) (k _ _ (O6 hG h1) _ _ hv rfl)
     · cases h
   · cases h
 · cases h
theorem IQ (hG:∀ g cs,G g=some cs→AL cs=true) {r:HR} {X:Prop} {s0:AS} (fn:Func) (m:Nat) {l:List (PC P G)} (fps:List (FP s0.nx s0.nr)) (fbs:List (FO s0.nx s0.nr)) {v:AV} {s2:AS} (R:L5 P G l (Kd P fn m (QM G s0 (.ret v) s2)) r X)
   (h:ZZ s0.nx s0.nr P fn m .normal [v] (OC fps) (Vt fbs) r=some (.normal,Uq l,[v],s2,RE fps,YL fbs)):X:=by
 unfold ZZ at h
 split at h
 · split at h
   · rename_i v' hv
     split at h
     · rename_i h1
       simp only [Option.some.injEq,Prod.mk.injEq] at h
       obtain ⟨rfl,rfl,rfl,rfl,rfl,rfl⟩:=h
       exact R _ _ _ _ rfl (Hf l) ⟨_,hv,_,rfl,O6 hG h1⟩
     · cases h
   · cases h
 · cases h
def rK (z:List NZ) (tgt:List AV):HR→Option (List Cd×Nat×Code×List KI×List AV×AS)
 | some (.at id c ks,[],cd,fr,s)=>(match mQ z fr s with
   | some (fr2,s2)=>some (cd,id,c,ks,eZ fr2 tgt,s2)
   | none=>none)
 | _=>none
theorem GC {r:HR} {X:Prop} {Q:AX→List AV→AS→Prop} {l:List (PC P G)} (z:List NZ) (id:Nat) (L:Code) (ks2:List KI) {fr2:List AV} {s2:AS} (R:L5 P G l Q r X)
   (h:rK z fr2 r=some (Uq l,id,L,ks2,fr2,s2)) (k:WL P G (XS P G) H0 L fr2 s2 (B2 id (BV P G ks2 Q))):X:=by
 unfold rK at h
 split at h
 · split at h
   · rename_i fr3 s3 hz
     simp only [Option.some.injEq,Prod.mk.injEq] at h
     obtain ⟨rfl,rfl,rfl,rfl,h5,rfl⟩:=h
     refine R _ _ _ _ rfl (Hf l) ?_
     obtain ⟨e3,fr4,s4,h3,h4⟩:=k
     refine ⟨e3,fr4,s4,.weakL (fun cx w vs hs hr=>?_) h3,h4⟩
     obtain ⟨c2,x2,st2,r2⟩:=VQ hz cx w vs hs hr
     exact ⟨c2,x2,st2,h5▸JX r2⟩
   · cases h
 · cases h
def jv (j:List Value) (k:Nat):Value:=lE j k
def zD (p:Nat):List (Nat×Value)→Option Value
 | []=>none
 | e::_=>(match Nat.beq e.1 p with | true=>some e.2 | false=>none)
def vA (j:List Value) (l:List (Nat×Value)) (k:Nat):Nat→List Value
 | 0=>[]
 | n+1=>(match zD k l with
   | some v=>v::vA j (l.drop 1) (k+1) n
   | none=>jv j k::vA j l (k+1) n)
def js (n:Nat) (j:List Value) (l:List (Nat×Value)):List Value:=vA j l 0 n
def sJ:Nat→Nat→List (Nat×AV)→List Nat→Nat→List Value→List AV
 | 0,_,_,_,_,_=>[]
 | n+1,p,l,bs,kb,j=>(match nB.hd1 p l with
   | some v=>v::sJ n (p+1) (l.drop 1) bs kb j
   | none=>(match nB.hd2 p bs with
     | true=>.sc (jv j kb)::sJ n (p+1) l (bs.drop 1) (kb+1) j
     | false=>.any::sJ n (p+1) l bs kb j))
def fr (n:Nat) (l:List (Nat×AV)) (bs:List Nat) (j:List Value):List AV:=sJ n 0 l bs 0 j
def KW {δ:Type} (Q:AX→List AV→AS→Prop) (id:Nat) (F:δ→List Value→List AV) (S:δ→AS) (d:δ):Prop:=∀ j,Q (.exit id) (F d j) (S d)
section loops
variable {α γ δ ρ β:Type} {id:Nat} {L:Code} {ks2:List KI} {Q:AX→List AV→AS→Prop} {done:γ→δ} {X:Prop} {k:δ→Option β} {kr:ρ→Option β} {r:β}
theorem GM (Rv:(AX→List AV→AS→Prop)→ρ→Prop) {body:Nat→α→γ→Option (Lp γ δ ρ)} {l:List α} {i0:Nat} {x:γ} (F:Nat→γ→List Value→List AV) (S:γ→AS) (XF:δ→List Value→List AV) (SX:δ→AS) (j:List Value)
   (hat:WL P G (XS P G) H0 L (F i0 x j) (S x) (B2 id (BV P G ks2 Q))→X)
   (hz:∀ i x j,l.length≤i→KW (B2 id (BV P G ks2 Q)) id XF SX (done x)→W P G (XS P G) H0 L (F i x j) (S x) (K1 P G L (S x) (B2 id (BV P G ks2 Q))))
   (hs:∀ i y x j r,l[i]?=some y→i < l.length→i < 9223372036854775807→RQ (fun x'=>∀ j',WL P G (XS P G) H0 L (F (i+1) x' j') (S x') (B2 id (BV P G ks2 Q))) (KW (B2 id (BV P G ks2 Q)) id XF SX) (Rv (B2 id (BV P G ks2 Q))) r→body i y x=some r→W P G (XS P G) H0 L (F i x j) (S x) (K1 P G L (S x) (B2 id (BV P G ks2 Q))))
   (hb:∀ d j,k d=some r→BV P G ks2 Q .normal (XF d j) (SX d)) (hr:∀ v,kr v=some r→Rv (B2 id (BV P G ks2 Q)) v) :
   (IZ l.length (A2 body done (l.drop i0) i0 x)).bind (JA k kr)=some r→X:=fun h=>by
 obtain ⟨res,h1,h2⟩:=Vu h
 obtain ⟨hl,h1⟩:=qS h1
 refine hat (Za l F (fun _ x _=>S x) (fun _=>True) (KW (B2 id (BV P G ks2 Q)) id XF SX) (Rv (B2 id (BV P G ks2 Q))) (fun i x j _ h3 h4=>PT (hz i x j h3 h4)) (fun i y x j r _ h3 h4 h5 h6=>PT (hs i y x j r h3 h4 (by omega) (by cases r with | nx _=>exact fun j'=>h6 j' trivial | ex _=>exact h6 | rt _=>exact h6) h5)) i0 h1 ?_ j trivial)
 cases res with
 | inl d =>
   intro j
   show BV P G ks2 Q (Cu id (.exit id)) _ _
   rw [show Cu id (.exit id)=.normal from by simp [Cu]]
   exact hb d j h2
 | inr v=>exact hr v h2
theorem uV (Rv:(AX→List AV→AS→Prop)→ρ→Prop) {body:Nat→γ→Option (Lp γ δ ρ)} {n:Nat} {x:γ} (F:Nat→γ→List Value→List AV) (S:γ→AS) (XF:δ→List Value→List AV) (SX:δ→AS) (j:List Value)
   (hat:WL P G (XS P G) H0 L (F 0 x j) (S x) (B2 id (BV P G ks2 Q))→X)
   (hz:∀ x j,n≤n→KW (B2 id (BV P G ks2 Q)) id XF SX (done x)→W P G (XS P G) H0 L (F n x j) (S x) (K1 P G L (S x) (B2 id (BV P G ks2 Q))))
   (hs:∀ i x j r,i < n→i < 9223372036854775807→RQ (fun x'=>∀ j',WL P G (XS P G) H0 L (F (i+1) x' j') (S x') (B2 id (BV P G ks2 Q))) (KW (B2 id (BV P G ks2 Q)) id XF SX) (Rv (B2 id (BV P G ks2 Q))) r→body i x=some r→W P G (XS P G) H0 L (F i x j) (S x) (K1 P G L (S x) (B2 id (BV P G ks2 Q))))
   (hb:∀ d j,k d=some r→BV P G ks2 Q .normal (XF d j) (SX d)) (hr:∀ v,kr v=some r→Rv (B2 id (BV P G ks2 Q)) v) :
   (IZ n (PI body done n 0 x)).bind (JA k kr)=some r→X:=fun h=>by
 obtain ⟨res,h1,h2⟩:=Vu h
 obtain ⟨hl,h1⟩:=qS h1
 refine hat (jG n F (fun _ x _=>S x) (fun _=>True) (KW (B2 id (BV P G ks2 Q)) id XF SX) (Rv (B2 id (BV P G ks2 Q))) (fun x j _ h4=>PT (hz x j (Nat.le_refl n) h4)) (fun i x j r _ h4 h5 h6=>PT (hs i x j r h4 (by omega) (by cases r with | nx _=>exact fun j'=>h6 j' trivial | ex _=>exact h6 | rt _=>exact h6) h5)) h1 ?_ j trivial)
 cases res with
 | inl d =>
   intro j
   show BV P G ks2 Q (Cu id (.exit id)) _ _
   rw [show Cu id (.exit id)=.normal from by simp [Cu]]
   exact hb d j h2
 | inr v=>exact hr v h2
end loops
theorem CX {ks:List KI} {fr:List AV} {s:AS} {Q:AX→List AV→AS→Prop} (n:Nat) (l:List (PC P G)):L5 P G l Q (Js (L2 P G n) ks .normal (sA l) fr s) (BV P G ks Q .normal fr s):=fun _ _ _ _ h hc hk=>T7 (Uj n) ks _ h hc hk
def pi {i:Nat} (h:i < 9223372036854775807):PC P G:=vE i h
def bp {n m:Nat} {a:List AV} (h:AL a=true):FO n m:=some ⟨.cells a,.cells a,.cells (.plain h)⟩
def bw {n m:Nat} (a b:Ap) (h:Hm n m a b):FO n m:=some ⟨a,b,h⟩
theorem unR {n m r sz k:Nat} {l:List AV} (h:decide (r < m)=true) (t:B3 n m l=true):under n m (.sl (.row r sz) k l)=true:=by simp only [under,h,t];rfl
def br {α:Type} {f:α→List AV} {C:List α→List AV} {k n m:Nat} (h:GL f C k) (r z:Nat) (w:List α) (hr:decide (r < m)=true:=by rfl):FO n m:=some ⟨.cells [.sl (.row r z) w.length (C w)],.cells [.sl (.row r z) w.length (C w)],.cells (.under (by simp only [B3,unR hr (BU _ _ (h.BI w))];rfl))⟩
theorem pure_nil {f:FuncId} {n:Nat} {cs:List AV} {v:AV} (h1:n=0→cs=[]→Pure P G f [.sl .nil 0 []] v) (h2:Pure P G f [.sl .nn n cs] v):Pure P G f [.sl .lost n cs] v:=fun s cx w vs hs ha=>by
 cases ha with
 | cons h t =>
   cases h with
   | @sl0 _ A cap _ =>
     cases hA:A.isNone with
     | true=>exact h1 rfl rfl s cx w _ hs (.cons (.sl0 hA) t)
     | false=>exact h2 s cx w _ hs (.cons (.sl0 hA) t)
   | sl1 hn hc _=>exact h2 s cx w _ hs (.cons (.sl1 hn hc trivial) t)
theorem rB {n:Nat} {l:List AV} (h:AL l=true):plain (.sl .nn n l)=true:=by simp only [plain,h];rfl
end
end AI
namespace AI
open Go Go.RowKit
section
variable {P:Program} {G:AB}
def TL (G:AB) (s:AS) (a v:AV):Prop:=∀ (c:Cx) (w:World) (u:Value),St G c w s→(∀ g,some g∈c.Bf→∀ i,¬ c.bad g i)→Rp c w a u→Rp (c.upto 0 0) w v u
inductive Fz (s:AS):List AV→List AV→Prop where
 | nil:Fz s [] []
 | r {a b:AV} {l k:List AV} (h:Fits 0 0 a b) (t:Fz s l k):Fz s (a::l) (b::k)
 | f {id n:Nat} {cs l k:List AV} (h:s.get id=some (.cells cs)) (hp:AL cs=true) (t:Fz s l k):Fz s (.msl id 0 n::l) (.sl .lost n cs::k)
 | g {cs ds l k:List AV} (h:Fz s cs ds) (t:Fz s l k):Fz s (.agg cs::l) (.agg ds::k)
 | u {cs ds l k:List AV} (h:Fz s cs ds) (t:Fz s l k):Fz s (.Bc cs::l) (.Bc ds::k)
theorem Fz.ok {s:AS} {c:Cx} {w:World} (hs:St G c w s) (hb:∀ g,some g∈c.Bf→∀ i,¬ c.bad g i) {l k:List AV} (h:Fz s l k):∀ {us:List Value},A6 c w l us→A6 (c.upto 0 0) w k us:=by
 induction h with
 | nil=>intro us hr;cases hr;exact .nil
 | r h _ ih=>intro us hr;cases hr with | cons h1 t=>exact .cons (h _ _ _ h1) (ih t)
 | @f id n cs l k h hp _ ih =>
   intro us hr
   cases hr with
   | cons h1 t =>
     refine .cons ?_ (ih t)
     cases h1 with
     | @msl _ _ _ g cap hn hid =>
       obtain ⟨vs,ext,T,hw,hv⟩:=Fp hs hid h
       have hg:=List.mem_of_getElem? hid
       have hvis:∀ g i v,EM c w g i v→EM (c.upto 0 0) w g i v:=fun g i v hv=>⟨hv.1,fun hsh=>by
         rcases hsh with hsh | ⟨r,n',cap',sz',hr,_⟩ | hsh
         · simp [Cx.upto] at hsh
         · simp [Cx.upto] at hr
         · exact hv.2.1 (.inr (.inr hsh)),hv.2.2⟩
       refine .sl1 hn (AA.GV (A6.plain hvis hp hv) (fun i v hi=>?_)) trivial
       rw [Nat.zero_add]
       refine ⟨hs.plow g hg,fun hsh=>?_,cell_of_heap hw (Jl hi)⟩
       rcases hsh with hsh | ⟨r,n',cap',sz',hr,_⟩ | hsh
       · simp [Cx.upto] at hsh
       · simp [Cx.upto] at hr
       · exact hb g hg i hsh
 | g _ _ ih1 ih2=>intro us hr;cases hr with | cons h1 t=>cases h1 with | agg h2=>exact .cons (.agg (ih1 h2)) (ih2 t)
 | u _ _ ih1 ih2=>intro us hr;cases hr with | cons h1 t=>cases h1 with | Bc h2=>exact .cons (.Bc (ih1 h2)) (ih2 t)
theorem TL.of {s:AS} {a v:AV} (h:Fz s [a] [v]):TL G s a v:=fun c w u hs hb hr=>by
 have:=h.ok hs hb (.cons hr .nil)
 cases this with
 | cons h1 _=>exact h1
def uL {t tx:TypeId} {a b:AV} {n:Nat} {m:Ap} (h:Cd.ok P G (.apB t tx a b n m)):PC P G:=⟨.mb n m,[.apB t tx a b n m],⟨h,trivial⟩⟩
theorem GL.apm {α:Type} {f:α→List AV} {C:List α→List AV} {k:Nat} (h:GL f C k) {t tx e e2 by':Nat} (hu:P.underlying t=some (.slice e)) (hux:P.underlying tx=some (.slice e2)) (hi:(P.info? e).map (fun i=>(i.size,i.bytes,i.zero.map (·.cells.size)))=some (k,by',some k)) (hk:0 < k) (hb:by'≤10000) (h1:∀ x,(f x).all one=true)
   (m:List α) {o:Own} (hm:¬ m.length=0) (hlen:m.length≤100000000):Cd.ok P G (.apB t tx (.sl .full 0 []) (.sl o m.length (C m)) m.length (.cells (C m))):=by
 cases hq:P.info? e with
 | none=>rw [hq] at hi;cases hi
 | some i =>
   rw [hq] at hi
   simp only [Option.map_some,Option.some.injEq,Prod.mk.injEq] at hi
   obtain ⟨h3,h4,h5⟩:=hi
   cases hz:i.zero with
   | none=>rw [hz] at h5;cases h5
   | some z =>
     intro s
     refine kG hu hq hz (fun s=>?_) hm (h.YB h1 m) (by rw [h4];exact Nat.le_trans (Nat.mul_le_mul hlen hb) (by decide)) (by omega) s
     unfold LZ
     rw [hux,h3]
     simp only [h.eq,DF h.len,if_true]
end
end AI
namespace AI
open Go
end AI
namespace AI
open Go Go.RowKit
end AI
namespace AI
open Go Go.RowKit
abbrev EW:=Cx→World→Prop
abbrev QE:=AX→List AV→AS→EW→Prop
def vF (e:AX) (fr:List AV) (c:Cx) (w:World) (e':Exit) (a:Act):Prop:=match e with
 | .normal=>e'=.normal∧A6 c w fr a.tmps.toList
 | .exit id=>e'=.exit id∧A6 c w fr a.tmps.toList
 | .ret=>e'=.ret∧A6 c w fr a.tmps.toList
 | .pan v=>∃ u,e'=.panic [{ v:=u,recovered:=false }]∧Rp c w v u
def EPost (G:AB) (Q:QE) (K:Exit→Act→World→Prop):Prop:=∀ e fr s E,Q e fr s E→∀ (cx:Cx) (w:World) (a:Act) (e':Exit),E cx w→St G cx w s→a.defers=[]→vF e fr cx w e' a→K e' a w
def WE (P:Program) (G:AB) (E:EW) (c:Code) (fr:List AV) (s:AS) (Q:QE):Prop:=∀ (cx:Cx) (w:World) (a:Act) (K:Exit→Act→World→Prop),E cx w→St G cx w s→A6 cx w fr a.tmps.toList→a.defers=[]→EPost G Q K→c.wp P K a w
def Hg (P:Program) (G:AB) (E:EW) (ops:Array Oper) (l:List Nat) (fr:List AV) (s:AS) (Q:QE):Prop:=∀ (cx:Cx) (w:World) (a:Act) (K:Exit→Act→World→Prop),E cx w→St G cx w s→A6 cx w fr a.tmps.toList→a.defers=[]→EPost G Q K→wpOps P ops K l a w
def Kx (E:EW):Prop:=∀ (cx:Cx) (w:World) (cx':Cx) (w':World),E cx w→Ext cx w cx' w'→E cx' w'
theorem vF.Hx {e:AX} {fr:List AV} {c:Cx} {w:World} {e':Exit} {a:Act} (h:vF e fr c w e' a) (he:e≠.normal):e'≠.normal:=by
 cases e with
 | normal=>exact absurd rfl he
 | exit id=>intro h5;rw [h.1] at h5;cases h5
 | ret=>intro h5;rw [h.1] at h5;cases h5
 | pan v=>obtain ⟨u,h5,_⟩:=h;intro h6;rw [h5] at h6;cases h6
section
variable {P:Program} {G:AB} {E:EW} {fr:List AV} {s:AS} {Q:QE}
theorem WE.of (hm:P.follows .mixedOrders=true) (hk:Kx E) {c:Code} {Q0:AX→List AV→AS→Prop} (h:W P G (XS P G) H0 c fr s Q0) (hQ:∀ e fr' s',Q0 e fr' s'→Q e fr' s' E):WE P G E c fr s Q:=by
 obtain ⟨e,fr',s',hj,hq⟩:=h
 have hS:=sound (Lg hm) hj
 intro cx w a K hE hs hf hd hK
 refine hS cx w a K hs hf hd ?_
 rintro e' a' w' ⟨c',hx,hs',hd',h4⟩
 refine hK e fr' s' E (hQ _ _ _ hq) c' w' a' e' (hk _ _ _ _ hE hx) hs' hd' ?_
 cases e<;>exact h4
theorem WE.seq {x y:Code} (h:WE P G E x fr s (fun e fr' s' E'=>(e=.normal∧WE P G E' y fr' s' Q)∨(e≠.normal∧Q e fr' s' E'))):WE P G E (.seq x y) fr s Q:=by
 intro cx w a K hE hs hf hd hK
 refine wp_seq (h cx w a _ hE hs hf hd ?_)
 rintro e fr' s' E' hq cx' w' a' e' hE' hs' hd' hok
 rcases hq with ⟨rfl,h2⟩ | ⟨hne,hq⟩
 · obtain ⟨rfl,hf'⟩:=hok
   exact h2 cx' w' a' K hE' hs' hf' hd' hK
 · exact KS (hok.Hx hne) (hK _ _ _ _ hq _ _ _ _ hE' hs' hd' hok)
theorem WE.cond {q:Operand} {x y:Code} {t:Bool} (hq:AE G fr q=some (.sc (.bool t))) (h:WE P G E (if t then x else y) fr s Q):WE P G E (.cond q x y) fr s Q:=by
 intro cx w a K hE hs hf hd hK
 have hr:=CC hs hf hq
 have hev:a.eval q=.bool t:=by
   generalize a.eval q=v at hr
   cases hr;rfl
 exact wp_cond hev (h cx w a K hE hs hf hd hK)
theorem WE.skip (h:Q .normal fr s E):WE P G E .skip fr s Q:=fun cx w a K hE hs hf hd hK=>wp_skip (hK _ _ _ _ h cx w a _ hE hs hd ⟨rfl,hf⟩)
theorem WE.exit {id:Nat} (h:Q (.exit id) fr s E):WE P G E (.exit id) fr s Q:=fun cx w a K hE hs hf hd hK=>wp_exit (hK _ _ _ _ h cx w a _ hE hs hd ⟨rfl,hf⟩)
theorem WE.block {id:Nat} {c:Code} (h:WE P G E c fr s (fun e fr' s' E'=>Q (Cu id e) fr' s' E')):WE P G E (.block id c) fr s Q:=by
 intro cx w a K hE hs hf hd hK
 refine wp_block (h cx w a _ hE hs hf hd ?_)
 rintro e fr' s' E' hq cx' w' a' e' hE' hs' hd' h4
 cases e with
 | normal=>obtain ⟨rfl,h5⟩:=h4;exact hK _ _ _ _ hq cx' w' a' _ hE' hs' hd' ⟨rfl,h5⟩
 | exit id' =>
   obtain ⟨rfl,h5⟩:=h4
   show if id'=id then K .normal a' w' else K (.exit id') a' w'
   by_cases hid:id'=id
   · rw [if_pos hid]
     refine hK _ _ _ _ hq cx' w' a' _ hE' hs' hd' ?_
     simp only [Cu,hid,if_true]
     exact ⟨rfl,h5⟩
   · rw [if_neg hid]
     refine hK _ _ _ _ hq cx' w' a' _ hE' hs' hd' ?_
     simp only [Cu,hid,if_false]
     exact ⟨rfl,h5⟩
 | ret=>obtain ⟨rfl,h5⟩:=h4;exact hK _ _ _ _ hq cx' w' a' _ hE' hs' hd' ⟨rfl,h5⟩
 | pan v=>obtain ⟨u,rfl,h5⟩:=h4;exact hK _ _ _ _ hq cx' w' a' _ hE' hs' hd' ⟨u,rfl,h5⟩
theorem WE.loop {L:Code} (I:Nat→List AV→AS→EW→Prop) (h:∀ m fr s E,I m fr s E→WE P G E L fr s (fun e fr' s' E'=>(e=.normal∧∃ m',m' < m∧I m' fr' s' E')∨(e≠.normal∧Q e fr' s' E'))) {m:Nat} (hi:I m fr s E):WE P G E (.loop L) fr s Q:=by
 have key:∀ (n m:Nat) (fr:List AV) (s:AS) (E:EW),m < n→I m fr s E→∀ (cx:Cx) (w:World) (a:Act) (K:Exit→Act→World→Prop),E cx w→St G cx w s→A6 cx w fr a.tmps.toList→a.defers=[]→EPost G Q K→Code.rounds P L K n a w:=by
   intro n
   induction n with
   | zero=>intro m fr s E hm;omega
   | succ n ih =>
     intro m fr s E hm hi cx w a K hE hs hf hd hK
     rw [rounds_succ]
     refine h m fr s E hi cx w a _ hE hs hf hd ?_
     rintro e fr' s' E' hq cx' w' a' e' hE' hs' hd' hok
     rcases hq with ⟨rfl,m',hm',hi'⟩ | ⟨hne,hq⟩
     · obtain ⟨rfl,hf'⟩:=hok
       exact ih m' fr' s' E' (by omega) hi' cx' w' a' K hE' hs' hf' hd' hK
     · exact KS (hok.Hx hne) (hK _ _ _ _ hq _ _ _ _ hE' hs' hd' hok)
 intro cx w a K hE hs hf hd hK
 exact wp_loop_rounds (m+1) (key (m+1) m fr s E (Nat.lt_succ_self m) hi cx w a K hE hs hf hd hK)
theorem WE.region {id:Nat} {ops:Array Oper} (h:Hg P G E ops (List.range ops.size) fr s Q):WE P G E (.region id ops false) fr s Q:=fun cx w a K hE hs hf hd hK=>wp_region (h cx w a K hE hs hf hd hK)
theorem Hg.nil {ops:Array Oper} (h:Q .normal fr s E):Hg P G E ops [] fr s Q:=fun cx w a K hE hs hf hd hK=>hK _ _ _ _ h cx w a .normal hE hs hd ⟨rfl,hf⟩
theorem Hg.op (hm:P.follows .mixedOrders=true) (hk:Kx E) {ops:Array Oper} {i:Nat} {l:List Nat} {o:Oper} (v:AV) {s1:AS} (ho:ops[i]?=some o) (hj:J P G (XS P G) H0 (.op ops o fr s (.ret v) s1)) (t:Hg P G E ops l (DK fr o.dst v) s1 Q):Hg P G E ops (i::l) fr s Q:=by
 intro cx w a K hE hs hf hd hK
 refine Fl ho (sound (Lg hm) hj cx w a _ _ hs (fun x _=>Pn hs hf x) (Ir (c:=cx) (w:=w) (fun _ _ _ _ _=>⟨fr,hf,rfl⟩)) ?_)
 intro u w' c' hx hs' hu
 exact t c' w' (a.put o.dst u) K (hk _ _ _ _ hE hx) hs' (Ie (hf.mono hx) hu) (by cases o.dst<;>exact hd) hK
theorem Hg.vY {E':EW} {ops:Array Oper} {i:Nat} {l:List Nat} {o:Oper} {fr2:List AV} (v:AV) {s2:AS} (ho:ops[i]?=some o) (hg:o.guard=none)
   (h:∀ (cx:Cx) (w:World) (a:Act),E cx w→St G cx w s→A6 cx w fr a.tmps.toList→∃ u w' cx',(execOp a.eval o).run P w=.ok (.value u) w'∧E' cx' w'∧St G cx' w' s2∧A6 cx' w' fr2 a.tmps.toList∧Rp cx' w' v u)
   (t:Hg P G E' ops l (DK fr2 o.dst v) s2 Q):Hg P G E ops (i::l) fr s Q:=by
 intro cx w a K hE hs hf hd hK
 refine Fl ho ?_
 obtain ⟨u,w',cx',hr,hE',hs',hf',hu⟩:=h cx w a hE hs hf
 unfold Gu
 have hw:Region.wanted o (yielded ops a.tmps)=true:=by unfold Region.wanted;rw [hg]
 rw [hw]
 simp only [if_true]
 unfold Oper.wp
 rw [hr]
 exact t cx' w' (a.put o.dst u) K hE' hs' (Ie hf' hu) (by cases o.dst<;>exact hd) hK
end
def p5 (b:Nat) (B:Nat→Nat→Prop) (w0:World) (E:EW):Prop:=∀ (c:Cx) (w:World),E c w→c.base=b∧Below b w0 w∧(∀ g i,B g i→c.bad g i)∧∀ g i,some g∈c.Bf→c.bad g i→g < b
def E0 (b:Nat) (B:Nat→Nat→Prop) (w0:World):EW:=fun c w=>c.base=b∧c.bad=B∧Below b w0 w
theorem E0.CY {b:Nat} {B:Nat→Nat→Prop} {w0:World}:Kx (E0 b B w0):=fun cx w cx' w' h hx=>⟨hx.base.trans h.1,hx.bad.trans h.2.1,h.2.2.trans (by have:=hx.below;rw [h.1] at this;exact this)⟩
theorem pA {P:Program} {G:AB} (hm:P.follows .mixedOrders=true) (hG:∀ g cs,G g=some cs→AL cs=true) {f:FuncId} {fn:Func} {c:Code} {args:List AV} {v:AV} (hf:P.funcs[f]?=some fn) (hb:fn.body=some c)
   (h:∀ (b:Nat) (B:Nat→Nat→Prop) (w0:World),(∀ g i,B g i→g < b)→WE P G (E0 b B w0) c (args++List.replicate (fn.ntmps - args.length) (.sc undef)) s0 (fun e fr' s' E'=>(e=.normal∨e=.ret)∧p5 b B w0 E'∧∃ a,Cm P s' fn fr'=some a∧TL G s' a v))
   (hp:AL args=true) (hv:plain v=true):Pure P G f args v:=by
 intro s cx w vs hs hargs
 have hvis:∀ g i x,EM cx w g i x→EM ⟨w.heap.size,[],[],cx.LA⟩ w g i x:=by
   intro g i x hx
   refine ⟨hx.1,fun hsh=>?_,hx.2.2⟩
   rcases hsh with hsh | ⟨r,n,cap,sz,hr,_⟩ | hsh
   · cases hsh
   · simp at hr
   · exact hx.2.1 hsh
 have hst:St G ⟨w.heap.size,[],[],cx.LA⟩ w s0 :=
   ⟨rfl,trivial,(fun i j g h1=>by simp at h1),(fun g hg=>by cases hg),(fun id g b h1=>by simp at h1),rfl,(fun r g n cap sz hr=>by simp at hr),(fun r n hr=>by cases hr),(fun g hg=>by cases hg),(fun g i hb=>hs.Ib hb),(fun r r' g n cap sz n' cap' sz' hr=>by simp at hr),(fun g cs hg=>AA.plain hvis (hG g cs hg) (hs.glob g cs hg)),Nat.le_refl _⟩
 have hl:=hargs.len
 refine calls_of_wp hf hb (h w.heap.size cx.LA w (fun g i hb=>hs.Ib hb) ⟨w.heap.size,[],[],cx.LA⟩ w _ _ ⟨rfl,rfl,Below.refl _ _⟩ hst ?_ rfl ?_)
 · simp only [Array.toList_append,Array.toList_replicate]
   rw [show vs.toArray.size=args.length by rw [List.size_toArray,hl]]
   exact (A6.plain hvis hp hargs).append (A6.replicate (.sc rfl) _)
 · rintro e fr' s' E' ⟨he,hfin,a0,hr,hft⟩ c' w' a' e' hE' hst' hd' hok
   obtain ⟨h1,hbel,h3,h4⟩:=hfin c' w' hE'
   have vI:A6 c' w' fr' a'.tmps.toList∧(e'=.normal∨e'=.ret):=by
     rcases he with rfl | rfl
     · exact ⟨hok.2,.inl hok.1⟩
     · exact ⟨hok.2,.inr hok.1⟩
   obtain ⟨hf5,he'⟩:=vI
   obtain ⟨u,h6,h7⟩:=IN hst' hf5 hr
   obtain ⟨x2,st2⟩:=hs.same (w':=w') ⟨hbel.os,hbel.tape,hbel.output,hbel.size,fun k hk _=>hbel.block k hk⟩
   have hbad:∀ g,some g∈c'.Bf→∀ i,¬ c'.bad g i:=fun g hg i hb=>by
     have h5:=hst'.low g hg
     have:=h4 g i hg hb
     omega
   have hfit:=hft _ _ _ hst' hbad h7
   have hend:oD G cx w (.ret v) s (.returned u) w':=⟨cx,x2,st2,u,rfl,Rp.plain (c:=c'.upto 0 0) (fun g i x hvv=>⟨hvv.1,fun hsh=>hvv.2.1 (.inr (.inr (h3 g i hsh))),hvv.2.2⟩) hv hfit⟩
   rcases he' with rfl | rfl
   · exact ⟨hd',u,h6,hend⟩
   · exact ⟨hd',u,h6,hend⟩
end AI
