/- Part of a proof: see the last text. -/
import Derived.Test.YtnijkdknnmgoeaaGreatCxe
set_option linter.unusedVariables false
set_option linter.unusedSimpArgs false
namespace AI
open Go Go.RowKit
section
variable {P:Program} {G:A8} {X:OY} {H:Mn}
def W (P:Program) (G:A8) (X:OY) (H:Mn) (c:Code) (fr:List AV) (s:AS) (Q:AX→List AV→AS→Prop):Prop:=∃ e fr' s',J P G X H (.code c fr s e fr' s')∧Q e fr' s'
def WL (P:Program) (G:A8) (X:OY) (H:Mn) (c:Code) (fr:List AV) (s:AS) (Q:AX→List AV→AS→Prop):Prop:=∃ e fr' s',J P G X H (.loop c fr s e fr' s')∧Q e fr' s'
def WC (P:Program) (G:A8) (X:OY) (H:Mn) (f:FuncId) (args:List AV) (s:AS) (Q:CR→AS→Prop):Prop:=∃ r s',J P G X H (.call f args s r s')∧Q r s'
def sX (P:Program) (G:A8) (X:OY) (H:Mn) (y:Code) (Q:AX→List AV→AS→Prop):AX→List AV→AS→Prop
 | .normal,fr,s=>W P G X H y fr s Q
 | e,fr,s=>Q e fr s
def CM (id:Nat) (Q:AX→List AV→AS→Prop):AX→List AV→AS→Prop:=fun e fr s=>Q (EH id e) fr s
def OH (P:Program) (fn:Func) (n:Nat) (Q:CR→AS→Prop):AX→List AV→AS→Prop
 | .normal,fr,s=>∃ v,Gl P s fn fr=some v∧Q (.ret v) (s.cut n)
 | .ret,fr,s=>∃ v,Gl P s fn fr=some v∧Q (.ret v) (s.cut n)
 | .pan v,_,s=>Q (.pan v) (s.cut n)
 | _,_,_=>False
theorem W.mono {c:Code} {fr:List AV} {s:AS} {Q R:AX→List AV→AS→Prop} (h:W P G X H c fr s Q) (k:∀ e fr s,Q e fr s→R e fr s):W P G X H c fr s R:=by
 obtain ⟨e,fr',s',h1,h2⟩:=h
 exact ⟨e,fr',s',h1,k _ _ _ h2⟩
theorem WC.mono {f:FuncId} {args:List AV} {s:AS} {Q R:CR→AS→Prop} (h:WC P G X H f args s Q) (k:∀ r s,Q r s→R r s):WC P G X H f args s R:=by
 obtain ⟨r,s',h1,h2⟩:=h
 exact ⟨r,s',h1,k _ _ h2⟩
theorem abI {x y:Code} {fr:List AV} {s:AS} {Q:AX→List AV→AS→Prop} (h:W P G X H x fr s (sX P G X H y Q)):W P G X H (.seq x y) fr s Q:=by
 obtain ⟨e,fr1,s1,h1,h2⟩:=h
 cases e with
 | normal =>
   obtain ⟨e2,fr2,s2,h3,h4⟩:=h2
   exact ⟨e2,fr2,s2,.seq h1 h3,h4⟩
 | exit id=>exact ⟨_,_,_,.seqX h1 (by simp),h2⟩
 | ret=>exact ⟨_,_,_,.seqX h1 (by simp),h2⟩
 | pan v=>exact ⟨_,_,_,.seqX h1 (by simp),h2⟩
theorem oH {q:Operand} {x y:Code} {fr:List AV} {s:AS} {Q:AX→List AV→AS→Prop} (hq:Be G fr q=some (.sc (.bool true))) (h:W P G X H x fr s Q):W P G X H (.cond q x y) fr s Q:=by
 obtain ⟨e,fr1,s1,h1,h2⟩:=h
 exact ⟨e,fr1,s1,.cond hq h1,h2⟩
theorem qB {q:Operand} {x y:Code} {fr:List AV} {s:AS} {Q:AX→List AV→AS→Prop} (hq:Be G fr q=some (.sc (.bool false))) (h:W P G X H y fr s Q):W P G X H (.cond q x y) fr s Q:=by
 obtain ⟨e,fr1,s1,h1,h2⟩:=h
 exact ⟨e,fr1,s1,.cond hq h1,h2⟩
theorem Z4 {id:Nat} {c:Code} {fr:List AV} {s:AS} {Q:AX→List AV→AS→Prop} (h:W P G X H c fr s (CM id Q)):W P G X H (.block id c) fr s Q:=by
 obtain ⟨e,fr1,s1,h1,h2⟩:=h
 exact ⟨_,fr1,s1,.block h1,h2⟩
theorem xY {c:Code} {fr:List AV} {s:AS} {Q:AX→List AV→AS→Prop} (h:WL P G X H c fr s Q):W P G X H (.loop c) fr s Q:=by
 obtain ⟨e,fr1,s1,h1,h2⟩:=h
 exact ⟨_,fr1,s1,.loop h1,h2⟩
theorem drop_cons {α:Type} {o:α} {l m:List α} {k:Nat} (h:o::l=m.drop k):m[k]?=some o∧l=m.drop (k+1):=by
 constructor
 · have:=congrArg (fun x=>x[0]?) h
   simpa using this.symm
 · have:=congrArg List.tail h
   rw [List.tail_drop] at this
   exact this
theorem Ay {f:FuncId} {fn:Func} {c:Code} {args:List AV} {s:AS} {Q:CR→AS→Prop} (hf:P.funcs[f]?=some fn) (hb:fn.body=some c) (h:W P G X H c (args++List.replicate (fn.ntmps - args.length) (.sc undef)) s (OH P fn s.nx Q)):WC P G X H f args s Q:=by
 obtain ⟨e,fr1,s1,h1,h2⟩:=h
 cases e with
 | normal=>obtain ⟨v,h3,h4⟩:=h2;exact ⟨_,_,.body hf hb h1 (.inl rfl) h3 (.inl rfl),h4⟩
 | ret=>obtain ⟨v,h3,h4⟩:=h2;exact ⟨_,_,.body hf hb h1 (.inr rfl) h3 (.inl rfl),h4⟩
 | pan v=>exact ⟨_,_,.Kq hf hb h1,h2⟩
 | exit id=>exact h2.elim
end
end AI
namespace AI
open Go Go.RowKit
abbrev XS (P:Program) (G:A8):OY:=fun f args s r s'=>Sound P G (.call f args s r s')
def H0:Mn:=fun _ _=>none
theorem X8 {P:Program} {G:A8} (h:P.follows .mixedOrders=true):W7 P G (XS P G) H0:=⟨h,fun _ _ _ _ _ h=>h,fun _ _ _ _ _ h=>by cases h⟩
def Pure (P:Program) (G:A8) (f:FuncId) (args:List AV) (v:AV):Prop:=∀ s,Sound P G (.call f args s (.ret v) s)
def rows {α:Type} (f:α→List AV) (l:List α):List AV:=l.flatMap f
theorem UN {α:Type} {f:α→List AV} {k:Nat} (hf:∀ x,(f x).length=k) {l:List α} {i:Nat} {x:α} (h:l[i]?=some x):(rows f l).drop (i*k)=f x++rows f (l.drop (i+1)):=by
 induction l generalizing i with
 | nil=>simp at h
 | cons y l ih =>
   cases i with
   | zero=>simp at h;subst h;simp [rows]
   | succ i =>
     have:=ih (i:=i) (by simpa using h)
     have e:rows f (y::l)=f y++rows f l:=by simp [rows]
     rw [e,List.drop_append,hf y,show (i+1)*k - k=i*k by rw [Nat.add_mul];omega,List.drop_eq_nil_of_le (by rw [hf y,Nat.add_mul];omega),List.nil_append,this]
     simp
theorem J7 {α:Type} {f:α→List AV} {k:Nat} (hf:∀ x,(f x).length=k) (l:List α):(rows f l).length=l.length*k:=by
 induction l with
 | nil=>simp [rows]
 | cons y l ih =>
   have e:rows f (y::l)=f y++rows f l:=by simp [rows]
   rw [e,List.length_append,hf y,ih,List.length_cons,Nat.add_mul];omega
theorem Rg {α:Type} (f:α→List AV) (l m:List α):rows f (l++m)=rows f l++rows f m:=by simp [rows]
theorem HM {α:Type} (f:α→List AV) (x:α) (m:List α):rows f (x::m)=f x++rows f m:=by simp [rows]
theorem YA {α:Type} {f:α→List AV} {l:List α} (h:∀ x∈l,Bu (f x)=true):Bu (rows f l)=true:=by
 have R7:∀ a b:List AV,Bu a=true→Bu b=true→Bu (a++b)=true:=by
   intro a b ha hb
   induction a with
   | nil=>exact hb
   | cons x a ih =>
     simp only [Bu,Bool.and_eq_true,List.cons_append] at ha ⊢
     exact ⟨ha.1,ih ha.2⟩
 induction l with
 | nil=>rfl
 | cons y l ih=>rw [HM];exact R7 _ _ (h y List.mem_cons_self) (ih fun x hx=>h x (List.mem_cons_of_mem _ hx))
theorem Yi {P:Program} {α:Type} {f:α→List AV} {k:Nat} {t elem:TypeId} {e:TypeInfo} (hu:P.underlying t=some (.slice elem)) (he:P.info? elem=some e) (hk:e.size=k) (hf:∀ x,(f x).length=k) {own:Own} {l:List α} {i:Nat} {x:α} (h:l[i]?=some x) :
   B2 P t (.sl own l.length (rows f l)) (.sc (.int .i64 (i:Int)))=some (.el (f x++rows f (l.drop (i+1)))):=by
 have hi:=(List.getElem?_eq_some_iff.1 h).1
 have hn:Np (.sc (.int .i64 (i:Int)))=some i:=by
   unfold Np
   simp
 unfold B2
 rw [hu,hn]
 simp only [he,hk,if_pos hi,UN hf h]
theorem kU {i:Nat} (h:i≤9223372036854775807):IntKind.i64.wrap (i:Int)=(i:Int):=by
 refine IntWalk.i64_in _ ?_
 omega
end AI
namespace AI
open Go Go.RowKit
section
variable {G:A8}
inductive NZ where
 | t (tmp sz:Nat)
 | b (id i sz:Nat)
 | l (tmp:Nat)
 | lb (id i:Nat)
def mI:AV→Bool
 | .sl .full n cs=>(match n with | 0=>(match cs with | []=>true | _=>false) | _=>false)
 | _=>false
def nz1 (fr:List AV) (s:AS):NZ→Option (List AV×AS)
 | .t k sz=>(match fr[k]? with
   | some a=>(match mI a with
     | true=>some (fr.set k (.sl (.row s.nr sz) 0 []),s.tok)
     | false=>none)
   | none=>none)
 | .b id i sz=>(match look id s.h with
   | some (.cells cs)=>(match cs[i]? with
     | some a=>(match mI a with
       | true=>some (fr,⟨dP id (.cells (cs.set i (.sl (.row s.nr sz) 0 []))) s.h,s.nx,(s.nr,0)::s.F,s.nr+1⟩)
       | false=>none)
     | none=>none)
   | _=>none)
 | .l k=>(match fr[k]? with
   | some a=>some (fr.set k (X9 a),s)
   | none=>none)
 | .lb id i=>(match look id s.h with
   | some (.cells cs)=>(match cs[i]? with
     | some a=>some (fr,⟨dP id (.cells (cs.set i (X9 a))) s.h,s.nx,s.F,s.nr⟩)
     | none=>none)
   | _=>none)
def nzs:List NZ→List AV→AS→Option (List AV×AS)
 | [],fr,s=>some (fr,s)
 | z::l,fr,s=>(match nz1 fr s z with
   | some (fr,s)=>nzs l fr s
   | none=>none)
def tG (G:A8) (fr:List AV) (s:AS) (fr2:List AV) (s2:AS):Prop:=∀ (cx:Cx) (w:World) (vs:List Value),St G cx w s→Cz cx w fr vs→∃ cx2,Ext cx w cx2 w∧St G cx2 w s2∧Cz cx2 w fr2 vs
theorem tG.refl {fr:List AV} {s:AS}:tG G fr s fr s:=fun cx w vs h1 h2=>⟨cx,Ext.refl _ _,h1,h2⟩
theorem tG.trans {fr fr2 fr3:List AV} {s s2 s3:AS} (h:tG G fr s fr2 s2) (k:tG G fr2 s2 fr3 s3):tG G fr s fr3 s3:=fun cx w vs h1 h2=>by
 obtain ⟨c2,x2,s2,r2⟩:=h cx w vs h1 h2
 obtain ⟨c3,x3,s3,r3⟩:=k c2 w vs s2 r2
 exact ⟨c3,x2.trans x3,s3,r3⟩
theorem Zg {a:AV} (h:mI a=true) {c:Cx} {w:World} {v:Value} (hr:Rp c w a v) {r sz:Nat} (hl:r < c.rows.length):Rp c w (.sl (.row r sz) 0 []) v:=by
 unfold mI at h
 split at h
 · split at h
   · split at h
     · cases hr with
       | sl0 h0=>exact .sl0 ⟨h0,hl⟩
       | sl1 hn hc ho =>
         have:_=0:=ho
         subst this
         exact .sl0 ⟨rfl,hl⟩
     · cases h
   · cases h
 · cases h
theorem US {a:AV} {c:Cx} {w:World} {v:Value} (hr:Rp c w a v):Rp c w (X9 a) v:=by
 cases hr with
 | sl0 _=>exact .sl0 trivial
 | sl1 hn hc ho=>exact .sl1 hn hc trivial
 | sc h=>exact .sc h
 | agg h=>exact .agg h
 | Bd h=>exact .Bd h
 | msl h1 h2=>exact .msl h1 h2
 | el h=>exact .el h
 | ptr h=>exact .ptr h
 | fn h1 h2=>exact .fn h1 h2
 | ifc h=>exact .ifc h
 | mp h=>exact .mp h
 | any h=>exact .any h
theorem Cz.oU {c:Cx} {w:World} {as:List AV} {vs:List Value} (h:Cz c w as vs) {i:Nat} {a b:AV} (ha:as[i]?=some a) (hb:∀ v,Rp c w a v→Rp c w b v):Cz c w (as.set i b) vs:=by
 induction as generalizing vs i with
 | nil=>simp at ha
 | cons x as ih =>
   cases h with
   | cons h1 t =>
     cases i with
     | zero=>simp at ha;subst ha;exact .cons (hb _ h1) t
     | succ i=>exact .cons h1 (ih t (by simpa using ha))
theorem St.pE {c:Cx} {w:World} {s:AS} (h:St G c w s) {id:Nat} {b b2:A5} (hb:look id s.h=some b) (hk:∀ o,Eg c w b o→Eg c w b2 o):St G c w ⟨dP id b2 s.h,s.nx,s.F,s.nr⟩ :=
 ⟨h.len,P2 h.desc,h.nodup,h.low,fun id' g b' h1 h2=>by
   rcases PZ h2 with ⟨rfl,rfl⟩ | ⟨_,h3⟩
   · obtain ⟨o,ho,hbo⟩:=h.box _ g b h1 hb
     exact ⟨o,ho,hk o hbo⟩
   · exact h.box id' g b' h1 h3,h.rlen,h.row,h.rfree,h.plow,h.blow,h.rdist,h.glob,h.bsz⟩
theorem aaQ {fr fr2:List AV} {s s2:AS} {z:NZ} (h:nz1 fr s z=some (fr2,s2)):tG G fr s fr2 s2:=by
 intro cx w vs hs hr
 cases z with
 | t k sz =>
   simp only [nz1] at h
   split at h
   · rename_i a ha
     split at h
     · rename_i hn
       cases h
       obtain ⟨x,st⟩:=hs.tok
       refine ⟨_,x,st,(hr.mono x).oU ha (fun v hv=>Zg hn hv ?_)⟩
       simp [hs.rlen]
     · cases h
   · cases h
 | b id i sz =>
   simp only [nz1] at h
   split at h
   · rename_i cs hb
     split at h
     · rename_i a ha
       split at h
       · rename_i hn
         cases h
         obtain ⟨x,st⟩:=hs.tok
         refine ⟨_,x,st.pE (b:=.cells cs) hb (fun o ho=>?_),hr.mono x⟩
         cases ho with
         | cellsX ext h1=>exact .cellsX ext (h1.oU ha (fun v hv=>Zg hn hv (by simp [hs.rlen])))
       · cases h
     · cases h
   · cases h
 | l k =>
   simp only [nz1] at h
   split at h
   · rename_i a ha
     cases h
     exact ⟨cx,Ext.refl _ _,hs,hr.oU ha (fun v hv=>US hv)⟩
   · cases h
 | lb id i =>
   simp only [nz1] at h
   split at h
   · rename_i cs hb
     split at h
     · rename_i a ha
       cases h
       refine ⟨cx,Ext.refl _ _,hs.pE (b:=.cells cs) hb (fun o ho=>?_),hr⟩
       cases ho with
       | cellsX ext h1=>exact .cellsX ext (h1.oU ha (fun v hv=>US hv))
     · cases h
   · cases h
theorem fQ:∀ {l:List NZ} {fr fr2:List AV} {s s2:AS},nzs l fr s=some (fr2,s2)→tG G fr s fr2 s2:=by
 intro l
 induction l with
 | nil=>intro fr fr2 s s2 h;simp only [nzs] at h;cases h;exact .refl
 | cons z l ih =>
   intro fr fr2 s s2 h
   simp only [nzs] at h
   split at h
   · rename_i f1 s1 h1;exact (aaQ h1).trans (ih h)
   · cases h
end
end AI
namespace AI
open Go Go.RowKit
def eqV:Value→Value→Bool
 | .string a,.string b=>BC a.data.toList b.data.toList
 | .int k a,.int k' b=>(match sameKind k k' with | true=>Bp a b | false=>false)
 | a,b=>m1 a b
theorem uF {a b:Value} (h:eqV a b=true):a=b:=by
 unfold eqV at h
 split at h
 · rename_i x y
   rw [To,beq_iff_eq] at h
   have:x=y:=ByteArray.ext (Array.ext' h)
   rw [this]
 · split at h
   · rename_i hk
     rw [MU,beq_iff_eq] at h
     rw [Re hk,h]
   · cases h
 · exact Zl h
def s8:Own→Own→Bool
 | .full,.full=>true
 | .lost,.lost=>true
 | .nil,.nil=>true
 | .nn,.nn=>true
 | _,_=>false
theorem iM {a b:Own} (h:s8 a b=true):a=b:=by cases a<;>cases b<;>first | rfl | cases h
mutual
def Ut:AV→AV→Bool
 | .sc a,.sc b=>eqV a b
 | .agg a,.agg b=>dY a b
 | .Bd a,.Bd b=>dY a b
 | .sl o n a,.sl p m b=>(match s8 o p with
   | true=>(match Nat.beq n m with | true=>dY a b | false=>false)
   | false=>false)
 | .ifc t a,.ifc u b=>(match Nat.beq t u with | true=>Ut a b | false=>false)
 | _,_=>false
def dY:List AV→List AV→Bool
 | [],[]=>true
 | a::as,b::bs=>(match Ut a b with | true=>dY as bs | false=>false)
 | _,_=>false
end
mutual
theorem YL:∀ {a b:AV},Ut a b=true→a=b
 | .sc a,b,h=>by
   cases b<;>first
     | (simp only [Ut] at h;rw [uF h])
     | (simp [Ut] at h;done)
 | .agg a,b,h=>by
   cases b<;>first
     | (simp only [Ut] at h;rw [NE h])
     | (simp [Ut] at h;done)
 | .Bd a,b,h=>by
   cases b<;>first
     | (simp only [Ut] at h;rw [NE h])
     | (simp [Ut] at h;done)
 | .sl o n a,b,h=>by
   cases b<;>first
     | (simp only [Ut] at h
        split at h
        · rename_i h1
          split at h
          · rename_i h2;rw [iM h1,beq_true h2,NE h]
          · cases h
        · cases h)
     | (simp [Ut] at h;done)
 | .ifc t a,b,h=>by
   cases b<;>first
     | (simp only [Ut] at h
        split at h
        · rename_i h1;rw [beq_true h1,YL h]
        · cases h)
     | (simp [Ut] at h;done)
 | .msl _ _ _,b,h=>by simp [Ut] at h
 | .el _,b,h=>by simp [Ut] at h
 | .ptr _ _,b,h=>by simp [Ut] at h
 | .fn _ _ _,b,h=>by simp [Ut] at h
 | .mp _,b,h=>by simp [Ut] at h
 | .any,b,h=>by simp [Ut] at h
theorem NE:∀ {a b:List AV},dY a b=true→a=b
 | [],b,h=>by cases b<;>first | rfl | (simp [dY] at h;done)
 | a::as,b,h=>by
   cases b<;>first
     | (simp [dY] at h;done)
     | (simp only [dY] at h
        split at h
        · rename_i h1;rw [YL h1,NE h]
        · cases h)
end
structure B5 where
 f:Nat
 args:List AV
 box:Option (List AV×List AV)
 v:AV
def AA (P:Program) (G:A8) (e:B5):Prop:=match e.box with
 | none=>∀ s,Sound P G (.call e.f e.args s (.ret e.v) s)
 | some (cs,cs')=>∀ s id,s.get id=some (.cells cs)→Sound P G (.call e.f (.ptr id 0::e.args) s (.ret e.v) (s.put id (.cells cs')))
def eX (id:Nat) (s:AS) (args:List AV) (e:B5):Option (List AV×List AV)→Option (CR×AS)
 | some (cs,cs')=>(match s.get id with
   | some (.cells ds)=>(match dY ds.reverse cs.reverse with
     | true=>(match dY args e.args with
       | true=>some (.ret e.v,s.put id (.cells cs'))
       | false=>none)
     | false=>none)
   | _=>none)
 | none=>none
def hit (args:List AV) (s:AS) (e:B5):Option (CR×AS) :=
 match args with
 | .ptr id 0::rest=>eX id s rest e e.box
 | args=>(match e.box with
   | none=>(match dY args.reverse e.args.reverse with
     | true=>some (.ret e.v,s)
     | false=>none)
   | some _=>none)
def find (f:Nat) (args:List AV) (s:AS):List B5→Option (CR×AS)
 | []=>none
 | e::l=>(match Nat.beq e.f f with
   | true=>(match hit args s e with
     | some r=>some r
     | none=>find f args s l)
   | false=>find f args s l)
theorem xV {P:Program} {G:A8} {args:List AV} {s s':AS} {e:B5} {r:CR} (he:AA P G e) (h:hit args s e=some (r,s')):Sound P G (.call e.f args s r s'):=by
 unfold hit at h
 split at h
 · rename_i id rest
   unfold AA at he
   cases hb:e.box with
   | none=>rw [hb] at h;cases h
   | some q =>
     obtain ⟨cs,cs'⟩:=q
     rw [hb] at h he
     simp only [eX] at h
     split at h
     · rename_i ds hg
       split at h
       · rename_i h1
         split at h
         · rename_i h2
           cases h
           have e1:=List.reverse_inj.1 (NE h1)
           have e2:=NE h2
           subst e1
           rw [e2]
           exact he s id hg
         · cases h
       · cases h
     · cases h
 · unfold AA at he
   cases hb:e.box with
   | some q=>rw [hb] at h;cases h
   | none =>
     rw [hb] at h he
     simp only at h
     split at h
     · rename_i h1
       cases h
       have e1:=List.reverse_inj.1 (NE h1)
       rw [e1]
       exact he _
     · cases h
theorem mD {P:Program} {G:A8} {f:Nat} {args:List AV} {s s':AS} {l:List B5} {r:CR} (hl:∀ e∈l,AA P G e) (h:find f args s l=some (r,s')):Sound P G (.call f args s r s'):=by
 induction l with
 | nil=>cases h
 | cons e l ih =>
   simp only [find] at h
   split at h
   · rename_i hf
     split at h
     · rename_i q hh
       cases h
       have:=xV (hl e List.mem_cons_self) hh
       rw [beq_true hf] at this
       exact this
     · exact ih (fun e he=>hl e (List.mem_cons_of_mem _ he)) h
   · exact ih (fun e he=>hl e (List.mem_cons_of_mem _ he)) h
def So (e:B5):Option Rs→Bool
 | some (.call (.ret v) s)=>(match Oc v with
   | true=>(match Ut (LO v) e.v with
     | true=>(match e.box with
       | none=>true
       | some (_,cs')=>(match s.get 0 with
         | some (.cells ds)=>(match Hw ds with
           | true=>dY (PQ ds) cs'
           | false=>false)
         | _=>false))
     | false=>false)
   | false=>false)
 | _=>false
def KD (e:B5):Tk:=match e.box with
 | none=>.call e.f e.args s0
 | some (cs,_)=>.call e.f (.ptr 0 0::e.args) ⟨[(0,.cells cs)],1,[],0⟩
def Sx (e:B5):Bool:=Bu e.args&&(match e.box with
 | none=>true
 | some (cs,_)=>Bu cs)
theorem jG {P:Program} {G:A8} {X:Q6} {H:Mn} (hg:W7 P G (XP X) H) (hG:∀ g cs,G g=some cs→Bu cs=true) {n:Nat} {e:B5} (hp:Sx e=true) (h:So e (sT P G X H n (KD e))=true):AA P G e:=by
 unfold Sx at hp
 rw [Bool.and_eq_true] at hp
 cases hr:sT P G X H n (KD e) with
 | none=>rw [hr] at h;cases h
 | some rs =>
   rw [hr] at h
   have hrt:=xO n _ _ hr
   cases rs with
   | code e fr s=>cases h
   | tr t fr s=>cases h
   | call c s =>
     cases c with
     | pan v=>cases h
     | ret v =>
       simp only [So] at h
       split at h
       · rename_i hb
         split at h
         · rename_i he
           have ev:=YL he
           unfold AA
           cases hbx:e.box with
           | none =>
             intro s'
             unfold KD at hrt
             rw [hbx] at hrt
             have:=XE hG (sound hg hrt) hp.1 hb s'
             rw [ev] at this
             exact this
           | some q =>
             obtain ⟨cs,cs'⟩:=q
             intro s' id hid
             unfold KD at hrt
             rw [hbx] at hrt h hp
             simp only at h hp
             split at h
             · rename_i ds hds
               split at h
               · rename_i hbd
                 have ec:=NE h
                 have:=WA hG (sound hg hrt) hds hp.1 hp.2 hb hbd s' id hid
                 rw [ev,ec] at this
                 exact this
               · cases h
             · cases h
         · cases h
       · cases h
theorem Al.cons {P:Program} {G:A8} {e:B5} {l:List B5} (he:AA P G e) (hl:∀ e∈l,AA P G e):∀ e'∈e::l,AA P G e':=fun e' h=>by
 rcases List.mem_cons.1 h with h | h
 · rw [h];exact he
 · exact hl e' h
end AI
namespace AI
open Go Go.RowKit
inductive Hn where
 | k
 | b (b:Bool)
 | i (z:Int)
 | w (v:AV)
 | a (v:AV) (s:AS)
 | ae (v:AV)
 | m (s:AS)
 | l (v:AV)
 | s (s:AS)
 | c (v:AV) (s:AS)
 | o (v:AV)
 | z (c:Nat)
 | p (v:AV) (s:AS)
 | g (sz k:Nat) (cs:List AV)
 | u (v:AV) (pre:List (Nat×A5)) (tp:List (Nat×Nat)) (ups:List (Nat×A5)) (tu:List (Nat×Nat))
 | q (v:AV) (pre:List (Nat×A5)) (tp:List (Nat×Nat)) (ups:List (Nat×A5)) (tu:List (Nat×Nat))
 | n (l:List NZ)
 | x (b:A5) (v:AV)
 | y (b b2:A5)
 | lb (m:A5) (v:AV)
 | sb (m m2:A5)
 | mb (n:Nat) (m:A5)
 | za
 | cn (v:AV) (h:List (Nat×A5)) (dn:Nat) (F:List (Nat×Nat)) (dr:Nat)
 | f (id:Nat) (b b2:A5)
inductive Cd where
 | eqb (B b:Bool)
 | eqi (X z:Int)
 | idx (t:TypeId) (a b v:AV)
 | bin (op:BinOp) (t:TypeId) (x y:Operand) (a b v:AV)
 | call (f:FuncId) (args:List AV) (s:AS) (v:AV)
 | R7 (s:AS) (t tx:TypeId) (a b v:AV) (s1:AS)
 | ix (t:TypeId) (a b v:AV)
 | lk (s:AS) (t:TypeId) (a b:AV) (ok:Bool) (v:AV)
 | ms (s:AS) (t:TypeId) (a b v:AV) (s1:AS)
 | callS (f:FuncId) (args:List AV) (s:AS) (v:AV) (s1:AS)
 | ld (s:AS) (t:TypeId) (a v:AV)
 | st (s:AS) (t:TypeId) (a x:AV) (s1:AS)
 | mk (s:AS) (t:TypeId) (a b v:AV) (s1:AS)
 | sli (t:TypeId) (a:AV) (l h m:Option AV) (v:AV)
 | callP (f:FuncId) (args:List AV) (s:AS) (v:AV) (s1:AS)
 | pur (f:FuncId) (args:List AV) (v:AV)
 | Q2 (t tx:TypeId) (own:Own) (n:Nat) (cs:List AV) (b:AV) (sz k:Nat) (cs2:List AV)
 | eqn (k n:Nat)
 | callU (f:FuncId) (args:List AV) (r:CR) (pre:List (Nat×A5)) (tp:List (Nat×Nat)) (ups:List (Nat×A5)) (tu:List (Nat×Nat))
 | eqx (a b:List (Option A5)) (c d:List (Option Nat))
 | lkB (b:A5) (t:TypeId) (k:AV) (ok:Bool) (v:AV)
 | msB (b:A5) (t:TypeId) (k v:AV) (b2:A5)
 | ldB (b:A5) (t:TypeId) (off:Nat) (v:AV)
 | stB (b:A5) (t:TypeId) (off:Nat) (x:AV) (b2:A5)
 | mkB (t:TypeId) (a x:AV) (n:Nat) (m:A5)
 | apB (t tx:TypeId) (a b:AV) (n:Nat) (m:A5)
 | callN (f:FuncId) (args:List AV) (nx nr:Nat) (v:AV) (h:List (Nat×A5)) (dn:Nat) (F:List (Nat×Nat)) (dr:Nat)
 | rd (nr:Nat) (b b2:A5)
def AS.QV (s:AS):List (Nat×A5)→AS
 | []=>s
 | e::l=>(s.put e.1 e.2).QV l
def AS.OL (s:AS):List (Nat×Nat)→AS
 | []=>s
 | e::l=>(AS.mk s.h s.nx (cB e.1 e.2 s.F) s.nr).OL l
def Se (s:AS):List (Nat×A5)→List (Option A5)
 | []=>[]
 | e::l=>s.get e.1::Se s l
def N3:List (Nat×A5)→List (Option A5)
 | []=>[]
 | e::l=>some e.2::N3 l
def Vf (F:List (Nat×Nat)):List (Nat×Nat)→List (Option Nat)
 | []=>[]
 | e::l=>C8 e.1 F::Vf F l
def OA:List (Nat×Nat)→List (Option Nat)
 | []=>[]
 | e::l=>some e.2::OA l
def Cd.ok (P:Program) (G:A8):Cd→Prop
 | .eqb B b=>B=b
 | .eqi X z=>X=z
 | .idx t a b v=>B2 P t a b=some v
 | .bin op t x y a b v=>IN P op t x y a b=some v
 | .call f args s v=>Sound P G (.call f args s (.ret v) s)
 | .R7 s t tx a b v s1=>∃ v0,KO P s t tx a b=some (v0,s1)∧∀ c w u,Rp c w v0 u→Rp c w v u
 | .ix t a b v=>JG P t a b=some v
 | .lk s t a b ok v=>F5 P s t a b ok=some v
 | .ms s t a b v s1=>HQ P s t a b v=some s1
 | .callS f args s v s1=>Sound P G (.call f args s (.ret v) s1)
 | .ld s t a v=>Ie P s t a=some v
 | .st s t a x s1=>JE P s t a x=some s1
 | .mk s t a b v s1=>GD P s t a b=some (v,s1)
 | .sli t a l h m v=>Hi P t a l h m=some v
 | .callP f args s v s1=>Sound P G (.call f args s (.pan v) s1)
 | .pur f args v=>∀ s,Sound P G (.call f args s (.ret v) s)
 | .Q2 t tx own n cs b sz k cs2=>∀ s:AS,Ld sz s.F n own=true→∃ cs0,KO P s t tx (.sl own n cs) b=some (.sl (sH s sz own) k cs0,s.to k own)∧∀ c w u o,Rp c w (.sl o k cs0) u→Rp c w (.sl o k cs2) u
 | .eqn k n=>k=n
 | .callU f args r pre tp ups tu=>∀ s:AS,Se s pre=N3 pre→Vf s.F tp=OA tp→Sound P G (.call f args s r ((s.QV ups).OL tu))
 | .eqx a b c d=>a=b∧c=d
 | .lkB b t k ok v=>∀ (s:AS) (id:Nat),s.get id=some b→F5 P s t (.mp id) k ok=some v
 | .msB b t k v b2=>∀ (s:AS) (id:Nat),s.get id=some b→HQ P s t (.mp id) k v=some (s.put id b2)
 | .ldB b t off v=>∀ (s:AS) (id:Nat),s.get id=some b→Ie P s t (.ptr id off)=some v
 | .stB b t off x b2=>∀ (s:AS) (id:Nat),s.get id=some b→JE P s t (.ptr id off) x=some (s.put id b2)
 | .mkB t a x n m=>∀ s:AS,∃ m0,GD P s t a x=some (.msl s.nx 0 n,s.new m0)∧∀ (cx:Cx) (w:World) (o:Obj),Eg cx w m0 o→Eg cx w m o
 | .apB t tx a b n m=>∀ s:AS,acV P G t tx a b s (.msl s.nx 0 n) (s.new m)
 | .callN f args nx nr v h dn F dr=>∀ s:AS,s.nx=nx→s.nr=nr→Sound P G (.call f args s (.ret v) ⟨h++s.h,s.nx+dn,F++s.F,s.nr+dr⟩)
 | .rd nr b b2=>∀ (cx:Cx) (w:World) (o:Obj),nr < cx.rows.length→Eg cx w b o→Eg cx w b2 o
def N7 (P:Program) (G:A8):List Cd→Prop
 | []=>True
 | c::l=>c.ok P G∧N7 P G l
theorem N7.R7 {P:Program} {G:A8} {l m:List Cd} (h:N7 P G (l++m)):N7 P G l∧N7 P G m:=by
 induction l with
 | nil=>exact ⟨trivial,h⟩
 | cons c l ih=>exact ⟨⟨h.1,(ih h.2).1⟩,(ih h.2).2⟩
abbrev HO:=Option (AV×AS×List Hn×List Cd)
def JI (s1:Option AR) (hs:List Hn):HO:=match s1 with
 | some (.val v s)=>some (v,s,hs,[])
 | _=>none
def acK (P:Program) (op:BinOp) (t:TypeId) (x y:Operand) (a b:AV) (s:AS):List Hn→HO
 | .k::hs=>(match Ti P op t x y a b with
   | some v=>some (v,s,hs,[])
   | none=>none)
 | .b c::hs=>(match Ti P op t x y a b with
   | some (.sc (.bool B))=>some (.sc (.bool c),s,hs,[.eqb B c])
   | _=>none)
 | .i z::hs=>(match Ti P op t x y a b with
   | some (.sc (.int k X))=>some (.sc (.int k z),s,hs,[.eqi X z])
   | _=>none)
 | .w v::hs=>some (v,s,hs,[.bin op t x y a b v])
 | _=>none
def abR (P:Program) (t:TypeId) (a b:AV) (s:AS):List Hn→HO
 | .k::hs=>(match B2 P t a b with
   | some v=>some (v,s,hs,[])
   | none=>none)
 | .w v::hs=>some (v,s,hs,[.idx t a b v])
 | _=>none
def UM (s:AS) (r:Option AR):List Hn→HO
 | .w v::hs=>(match r with
   | some (.ent f args)=>some (v,s,hs,[.pur f args v])
   | _=>none)
 | .a v s1::hs=>(match r with
   | some (.ent f args)=>some (v,s1,hs,[.callS f args s v s1])
   | _=>none)
 | .u v pre tp ups tu::hs=>(match r with
   | some (.ent f args)=>some (v,(s.QV ups).OL tu,hs,[.callU f args (.ret v) pre tp ups tu,.eqx (Se s pre) (N3 pre) (Vf s.F tp) (OA tp)])
   | _=>none)
 | .cn v h dn F dr::hs=>(match r with
   | some (.ent f args)=>some (v,⟨h++s.h,s.nx+dn,F++s.F,s.nr+dr⟩,hs,[.callN f args s.nx s.nr v h dn F dr])
   | _=>none)
 | _=>none
def rD (s:AS) (t tx:TypeId) (a b:AV):List Hn→HO
 | .mb n m::hs=>some (.msl s.nx 0 n,s.new m,hs,[.apB t tx a b n m])
 | .a v s1::hs=>some (v,s1,hs,[.R7 s t tx a b v s1])
 | .ae v::hs=>some (v,s,hs,[.R7 s t tx a b v s])
 | .g sz k cs2::hs=>(match a with
   | .sl .full n cs=>some (.sl (.row s.nr sz) k cs2,s.add k,hs,[.Q2 t tx .full n cs b sz k cs2])
   | .sl (.row r z) n cs=>(match C8 r s.F with
     | some m=>(match Nat.beq z sz with
       | true=>some (.sl (.row r sz) k cs2,s.grow r k,hs,[.Q2 t tx (.row r z) n cs b sz k cs2,.eqn m n])
       | false=>none)
     | none=>none)
   | _=>none)
 | _=>none
def aa5 (P:Program) (t:TypeId) (a b:AV) (s:AS):List Hn→HO
 | .k::hs=>(match JG P t a b with
   | some v=>some (v,s,hs,[])
   | none=>none)
 | .w v::hs=>some (v,s,hs,[.ix t a b v])
 | _=>none
def tT (t:TypeId) (a b:AV) (ok:Bool) (s:AS):List Hn→HO
 | .w v::hs=>some (v,s,hs,[.lk s t a b ok v])
 | .x m v::hs=>(match a with
   | .mp id=>some (v,s,hs,[.lkB m t b ok v,.eqx [s.get id] [some m] [] []])
   | _=>none)
 | _=>none
def uN (t:TypeId) (a b v:AV) (s:AS):List Hn→HO
 | .m s1::hs=>some (.sc undef,s1,hs,[.ms s t a b v s1])
 | .y m m2::hs=>(match a with
   | .mp id=>some (.sc undef,s.put id m2,hs,[.msB m t b v m2,.eqx [s.get id] [some m] [] []])
   | _=>none)
 | _=>none
def gI (t:TypeId) (a:Option AV) (s:AS) (r:Option AR):List Hn→HO
 | .l v::hs=>(match a with
   | some a=>some (v,s,hs,[.ld s t a v])
   | none=>none)
 | .lb m v::hs=>(match a with
   | some (.ptr id off)=>some (v,s,hs,[.ldB m t off v,.eqx [s.get id] [some m] [] []])
   | _=>none)
 | hs=>JI r hs
def YT (t:TypeId) (a x:Option AV) (s:AS) (r:Option AR):List Hn→HO
 | .s s1::hs=>(match a,x with
   | some a,some x=>some (.sc undef,s1,hs,[.st s t a x s1])
   | _,_=>none)
 | .sb m m2::hs=>(match a,x with
   | some (.ptr id off),some x=>some (.sc undef,s.put id m2,hs,[.stB m t off x m2,.eqx [s.get id] [some m] [] []])
   | _,_=>none)
 | hs=>JI r hs
def jP (t:TypeId) (a x:Option AV) (s:AS) (r:Option AR):List Hn→HO
 | .c v s1::hs=>(match a,x with
   | some a,some x=>some (v,s1,hs,[.mk s t a x v s1])
   | _,_=>none)
 | .mb n m::hs=>(match a,x with
   | some a,some x=>some (.msl s.nx 0 n,s.new m,hs,[.mkB t a x n m])
   | _,_=>none)
 | hs=>JI r hs
def zP (t:TypeId) (a:Option AV) (l h m:Option (Option AV)) (s:AS) (r:Option AR):List Hn→HO
 | .o v::hs=>(match a,l,h,m with
   | some a,some l,some h,some m=>some (v,s,hs,[.sli t a l h m v])
   | _,_,_,_=>none)
 | hs=>JI r hs
def jZ (P:Program) (G:A8) (fr:List AV) (s:AS) (o:Oper) (hs:List Hn):HO :=
 match o.op with
 | .binOp op t x y _=>(match AZ G fr x with
   | some a=>(match AZ G fr y with
     | some b=>acK P op t x y a b s hs
     | none=>none)
   | none=>none)
 | .indexAddr t x i=>(match AZ G fr x with
   | some a=>(match AZ G fr i with
     | some b=>abR P t a b s hs
     | none=>none)
   | none=>none)
 | .index t x i=>(match AZ G fr x with
   | some a=>(match AZ G fr i with
     | some b=>aa5 P t a b s hs
     | none=>none)
   | none=>none)
 | .lookup t x k ok=>(match AZ G fr x with
   | some a=>(match AZ G fr k with
     | some b=>tT t a b ok s hs
     | none=>none)
   | none=>none)
 | .mapUpdate t m k x=>(match AZ G fr m with
   | some a=>(match AZ G fr k with
     | some b=>(match AZ G fr x with
       | some v=>uN t a b v s hs
       | none=>none)
     | none=>none)
   | none=>none)
 | .load t x=>gI t (Be G fr x) s (OS P G fr s o) hs
 | .store t x y=>YT t (Be G fr x) (Be G fr y) s (OS P G fr s o) hs
 | .makeSlice t x y=>jP t (Be G fr x) (Be G fr y) s (OS P G fr s o) hs
 | .slice t x lo hi mx=>zP t (Be G fr x) (Wi G fr lo) (Wi G fr hi) (Wi G fr mx) s (OS P G fr s o) hs
 | .call cl=>(match cl.callee with
   | .value _=>UM s (OS P G fr s o) hs
   | .builtin .append=>(match cl.args.toList,cl.argTypes.toList with
     | [x,y],[t,tx]=>(match AZ G fr x with
       | some a=>(match AZ G fr y with
         | some b=>rD s t tx a b hs
         | none=>none)
       | none=>none)
     | _,_=>none)
   | _=>JI (OS P G fr s o) hs)
 | _=>JI (OS P G fr s o) hs
def XK (P:Program) (G:A8) (ops:Array Oper) (fr:List AV) (s:AS) (o:Oper) (hs:List Hn):HO :=
 match BU ops fr o with
 | true=>jZ P G fr s o hs
 | false=>some (.sc undef,s,hs,[])
section
variable {P:Program} {G:A8} {ops:Array Oper}
theorem Qv {r:Option AR} {hs hs':List Hn} {v:AV} {s:AS} {cd:List Cd} (h:JI r hs=some (v,s,hs',cd)):r=some (.val v s):=by
 unfold JI at h
 split at h
 · cases h;rfl
 · cases h
theorem jS {t:TypeId} {a:Option AV} {r:Option AR} {hs hs':List Hn} {v:AV} {s s1:AS} {cd:List Cd} (h:gI t a s r hs=some (v,s1,hs',cd)) (hc:N7 P G cd):(∃ a',a=some a'∧Ie P s t a'=some v∧s1=s)∨JI r hs=some (v,s1,hs',cd):=by
 unfold gI at h
 split at h
 · split at h
   · cases h;exact .inl ⟨_,rfl,hc.1,rfl⟩
   · cases h
 · split at h
   · cases h;exact .inl ⟨_,rfl,hc.1 _ _ (List.cons.inj hc.2.1.1).1,rfl⟩
   · cases h
 · exact .inr h
theorem QP {t:TypeId} {a x:Option AV} {r:Option AR} {hs hs':List Hn} {v:AV} {s s1:AS} {cd:List Cd} (h:YT t a x s r hs=some (v,s1,hs',cd)) (hc:N7 P G cd):(∃ a' x',a=some a'∧x=some x'∧JE P s t a' x'=some s1∧v=.sc undef)∨JI r hs=some (v,s1,hs',cd):=by
 unfold YT at h
 split at h
 · split at h
   · cases h;exact .inl ⟨_,_,rfl,rfl,hc.1,rfl⟩
   · cases h
 · split at h
   · cases h;exact .inl ⟨_,_,rfl,rfl,hc.1 _ _ (List.cons.inj hc.2.1.1).1,rfl⟩
   · cases h
 · exact .inr h
theorem gG {t:TypeId} {a x:Option AV} {r:Option AR} {hs hs':List Hn} {v:AV} {s s1:AS} {cd:List Cd} (h:jP t a x s r hs=some (v,s1,hs',cd)) (hc:N7 P G cd):(∃ a' x',a=some a'∧x=some x'∧∃ s0,GD P s t a' x'=some (v,s0)∧∀ cx w,St G cx w s0→St G cx w s1)∨JI r hs=some (v,s1,hs',cd):=by
 unfold jP at h
 split at h
 · split at h
   · cases h;exact .inl ⟨_,_,rfl,rfl,_,hc.1,fun _ _ h=>h⟩
   · cases h
 · split at h
   · cases h
     obtain ⟨m0,h1,h2⟩:=hc.1 s
     refine .inl ⟨_,_,rfl,rfl,_,h1,fun cx w hs=>?_⟩
     have:=hs.pE (id:=s.nx) (b:=m0) (b2:=_) (by simp [AS.new,look]) (fun o ho=>h2 cx w o ho)
     simpa [AS.new,dP] using this
   · cases h
 · exact .inr h
theorem nL {t:TypeId} {a:Option AV} {l k m:Option (Option AV)} {r:Option AR} {hs hs':List Hn} {v:AV} {s s1:AS} {cd:List Cd} (h:zP t a l k m s r hs=some (v,s1,hs',cd)) (hc:N7 P G cd):(∃ a' l' k' m',a=some a'∧l=some l'∧k=some k'∧m=some m'∧Hi P t a' l' k' m'=some v∧s1=s)∨JI r hs=some (v,s1,hs',cd):=by
 unfold zP at h
 split at h
 · split at h
   · cases h;exact .inl ⟨_,_,_,_,rfl,rfl,rfl,rfl,hc.1,rfl⟩
   · cases h
 · exact .inr h
theorem uD {fr:List AV} {s s1:AS} {o:Oper} {hs hs':List Hn} {v:AV} {cd:List Cd} (hw:BU ops fr o=true) (h:jZ P G fr s o hs=some (v,s1,hs',cd)) (hc:N7 P G cd):J P G (XS P G) H0 (.op ops o fr s (.ret v) s1):=by
 have plainC:JI (OS P G fr s o) hs=some (v,s1,hs',cd)→J P G (XS P G) H0 (.op ops o fr s (.ret v) s1):=fun h=>by
   have:=Qv h
   rw [JN] at this
   exact .opVal hw this
 unfold jZ at h
 split at h
 · rename_i op t x y z ho
   rw [BY,BY] at h
   split at h
   · rename_i a ha
     split at h
     · rename_i b hb
       have fin:∀ v',IN P op t x y a b=some v'→s1=s→v=v'→J P G (XS P G) H0 (.op ops o fr s (.ret v) s1):=by
         intro v' h1 h2 h3
         subst h2 h3
         refine .opVal hw ?_
         unfold Mw
         rw [ho]
         simp only [ha,hb,h1,Option.map_some]
       unfold acK at h
       rw [Jk] at h
       split at h
       · split at h
         · rename_i h1;cases h;exact fin _ h1 rfl rfl
         · cases h
       · split at h
         · rename_i h1;cases h
           have e:_=_:=hc.1
           subst e
           exact fin _ h1 rfl rfl
         · cases h
       · split at h
         · rename_i h1;cases h
           have e:_=_:=hc.1
           subst e
           exact fin _ h1 rfl rfl
         · cases h
       · cases h;exact fin _ hc.1 rfl rfl
       · cases h
     · cases h
   · cases h
 · rename_i t x i ho
   rw [BY,BY] at h
   split at h
   · rename_i a ha
     split at h
     · rename_i b hb
       have fin:∀ v',B2 P t a b=some v'→s1=s→v=v'→J P G (XS P G) H0 (.op ops o fr s (.ret v) s1):=by
         intro v' h1 h2 h3
         subst h2 h3
         refine .opVal hw ?_
         unfold Mw
         rw [ho]
         simp only [ha,hb,h1,Option.map_some]
       unfold abR at h
       split at h
       · split at h
         · rename_i h1;cases h;exact fin _ h1 rfl rfl
         · cases h
       · cases h;exact fin _ hc.1 rfl rfl
       · cases h
     · cases h
   · cases h
 · rename_i t x i ho
   rw [BY,BY] at h
   split at h
   · rename_i a ha
     split at h
     · rename_i b hb
       have fin:∀ v',JG P t a b=some v'→s1=s→v=v'→J P G (XS P G) H0 (.op ops o fr s (.ret v) s1):=by
         intro v' h1 h2 h3
         subst h2 h3
         refine .opVal hw ?_
         unfold Mw
         rw [ho]
         simp only [ha,hb,h1,Option.map_some]
       unfold aa5 at h
       split at h
       · split at h
         · rename_i h1;cases h;exact fin _ h1 rfl rfl
         · cases h
       · cases h;exact fin _ hc.1 rfl rfl
       · cases h
     · cases h
   · cases h
 · rename_i t x k ok ho
   rw [BY,BY] at h
   split at h
   · rename_i a ha
     split at h
     · rename_i b hb
       have h1:F5 P s t a b ok=some v∧s1=s:=by
         unfold tT at h
         split at h
         · cases h
           exact ⟨hc.1,rfl⟩
         · split at h
           · cases h
             refine ⟨hc.1 _ _ ?_,rfl⟩
             have h2:=hc.2.1.1
             simpa using h2
           · cases h
         · cases h
       obtain ⟨h1,rfl⟩:=h1
       refine .opVal hw ?_
       unfold Mw
       rw [ho]
       simp only [ha,hb,h1,Option.map_some]
     · cases h
   · cases h
 · rename_i t m k x ho
   rw [BY,BY,BY] at h
   split at h
   · rename_i a ha
     split at h
     · rename_i b hb
       split at h
       · rename_i x' hx
         have h1:HQ P s t a b x'=some s1∧v=.sc undef:=by
           unfold uN at h
           split at h
           · cases h
             exact ⟨hc.1,rfl⟩
           · split at h
             · cases h
               refine ⟨hc.1 _ _ ?_,rfl⟩
               have h2:=hc.2.1.1
               simpa using h2
             · cases h
           · cases h
         obtain ⟨h1,rfl⟩:=h1
         refine .opVal hw ?_
         unfold Mw
         rw [ho]
         simp only [ha,hb,hx,h1,Option.map_some]
       · cases h
     · cases h
   · cases h
 · rename_i t x ho
   rcases jS h hc with ⟨a,ha,h1,rfl⟩ | h1
   · refine .opVal hw ?_
     unfold Mw
     rw [ho]
     simp only [ha,Option.bind_some,h1,Option.map_some]
   · exact plainC h1
 · rename_i t x y ho
   rcases QP h hc with ⟨a,b,ha,hb,h1,rfl⟩ | h1
   · refine .opVal hw ?_
     unfold Mw
     rw [ho]
     simp only [ha,hb,h1,Option.map_some]
   · exact plainC h1
 · rename_i t x y ho
   rcases gG h hc with ⟨a,b,ha,hb,s0,h1,h2⟩ | h1
   · refine .opWeakS ?_ (.opVal (s':=s0) hw ?_) h2
     · simp only [quiet,ho]
     · unfold Mw
       rw [ho]
       simp only [ha,hb,h1,Option.map_some]
   · exact plainC h1
 · rename_i t x lo hi mx ho
   rcases nL h hc with ⟨a,l,k,m,ha,hl,hk,hm,h1,rfl⟩ | h1
   · refine .opVal hw ?_
     unfold Mw
     rw [ho]
     simp only [ha,hl,hk,hm,h1,Option.map_some]
   · exact plainC h1
 · rename_i cl ho
   split at h
   · unfold UM at h
     split at h
     · split at h
       · rename_i h1
         cases h
         rw [JN] at h1
         exact .opCall hw h1 (.ext (hc.1 s))
       · cases h
     · split at h
       · rename_i h1
         cases h
         rw [JN] at h1
         exact .opCall hw h1 (.ext hc.1)
       · cases h
     · split at h
       · rename_i h1
         cases h
         rw [JN] at h1
         exact .opCall hw h1 (.ext (hc.1 s hc.2.1.1 hc.2.1.2))
       · cases h
     · split at h
       · rename_i h1
         cases h
         rw [JN] at h1
         exact .opCall hw h1 (.ext (hc.1 s rfl rfl))
       · cases h
     · cases h
   · rename_i hcl
     split at h
     · rename_i x y t tx hxs hts
       rw [BY,BY] at h
       split at h
       · rename_i a ha
         split at h
         · rename_i b hb
           have fin:∀ v0,KO P s t tx a b=some (v0,s1)→(∀ c w u,Rp c w v0 u→Rp c w v u)→J P G (XS P G) H0 (.op ops o fr s (.ret v) s1):=by
             intro v0 h1 h2
             refine .opWeak (v:=v0) ?_ (.opVal hw ?_) h2
             · simp only [quiet,ho,hcl]
             · unfold Mw
               rw [ho]
               simp only [OG,hcl,hxs,hts,ha,hb,h1,Option.map_some]
           unfold rD at h
           split at h
           · cases h
             exact .opApp hw ho hcl hxs hts ha hb (hc.1 s)
           · cases h
             obtain ⟨v0,h1,h2⟩:=hc.1
             exact fin v0 h1 h2
           · cases h
             obtain ⟨v0,h1,h2⟩:=hc.1
             exact fin v0 h1 h2
           · split at h
             · cases h
               obtain ⟨cs0,h1,h2⟩:=hc.1 s rfl
               exact fin _ h1 (fun c w u=>h2 c w u _)
             · rename_i r z n cs
               split at h
               · rename_i m hm
                 split at h
                 · rename_i hz
                   have hz:=beq_true hz
                   subst hz
                   cases h
                   have e:m=n:=hc.2.1
                   subst e
                   obtain ⟨cs0,h1,h2⟩:=hc.1 s (by simp [Ld,hm])
                   exact fin _ h1 (fun c w u=>h2 c w u _)
                 · cases h
               · cases h
             · cases h
           · cases h
         · cases h
       · cases h
     · cases h
   · exact plainC h
 · exact plainC h
theorem Ph {fr:List AV} {s s1:AS} {o:Oper} {hs hs':List Hn} {v:AV} {cd:List Cd} (h:XK P G ops fr s o hs=some (v,s1,hs',cd)) (hc:N7 P G cd):J P G (XS P G) H0 (.op ops o fr s (.ret v) s1):=by
 unfold XK at h
 split at h
 · rename_i hw;exact uD hw h hc
 · rename_i hw;cases h;exact .opSkip hw
end
end AI
namespace AI
open Go Go.RowKit
def K0 (op:Op):Bool:=match op with
 | .call cl=>(match cl.callee with | .value _=>true | _=>false)
 | _=>false
def dM:List Hn→Bool
 | .a _ _::_=>true
 | .u _ _ _ _ _::_=>true
 | .cn _ _ _ _ _::_=>true
 | _=>false
def kX (P:Program) (G:A8) (ops:Array Oper) (fr:List AV) (s:AS) (o:Oper) (hs:List Hn):HO:=match K0 o.op with
 | true=>(match dM hs with
   | true=>none
   | false=>XK P G ops fr s o hs)
 | false=>XK P G ops fr s o hs
theorem Om {P:Program} {G:A8} {ops:Array Oper} {fr:List AV} {s:AS} {o:Oper} {hs:List Hn} {r:AV×AS×List Hn×List Cd} (h:kX P G ops fr s o hs=some r):XK P G ops fr s o hs=some r∧(K0 o.op=true→dM hs=false):=by
 unfold kX at h
 split at h
 · split at h
   · cases h
   · rename_i h1;exact ⟨h,fun _=>h1⟩
 · rename_i h1;exact ⟨h,fun h2=>by rw [h1] at h2;cases h2⟩
abbrev HT:=Option (List Hn×List Cd×List (List AV×AS×AV)×List AV×AS)
def cI (cd:List Cd) (x:List AV×AS×AV):HT→HT
 | some (hs,cd',t,fr,s)=>some (hs,cd++cd',x::t,fr,s)
 | none=>none
def v5 (P:Program) (G:A8) (ops:Array Oper):List Oper→Nat→List Hn→List AV→AS→HT
 | [],_,hs,fr,s=>some (hs,[],[],fr,s)
 | o::l,q,hs,fr,s=>(match Bs o.op with
   | true=>cI [] (fr,s,I8 ops fr o q) (v5 P G ops l (q+1) hs (Kl fr o.dst (I8 ops fr o q)) s)
   | false=>(match kX P G ops fr s o hs with
     | some (v,s1,hs1,cd)=>cI cd (fr,s,v) (v5 P G ops l q hs1 (Kl fr o.dst v) s1)
     | none=>none))
def acC (q0:Nat):Option AV→Bool
 | some (.el _)=>true
 | some (.ptr id _)=>Nat.blt id q0
 | _=>false
def aa9 (q0:Nat):Option AV→Bool
 | some (.ptr id _)=>Nat.ble q0 id
 | _=>false
def slV:Option AV→Bool
 | some (.sl _ _ _)=>true
 | some (.sc (.string _))=>true
 | _=>false
def mpV (q0:Nat):Option AV→Bool
 | some (.mp id)=>Nat.blt id q0
 | _=>false
def indep (G:A8) (q0:Nat) (fr:List AV) (o:Oper):Bool:=match o.op with
 | .load _ a=>acC q0 (AZ G fr a)
 | .lookup _ m _ _=>mpV q0 (AZ G fr m)
 | .store _ a _=>aa9 q0 (AZ G fr a)
 | .call cl=>(match cl.callee with
   | .value _=>true
   | .builtin .len=>(match cl.args.toList with
     | [x]=>slV (AZ G fr x)
     | _=>false)
   | _=>quiet o.op)
 | .alloc _=>true
 | op=>quiet op
def Jz (G:A8) (ops:Array Oper) (q0:Nat):List Oper→List (List AV×AS×AV)→Bool
 | o::os,t::ts=>(match BU ops t.1 o with
   | false=>Jz G ops q0 os ts
   | true=>(match indep G q0 t.1 o with
     | true=>Jz G ops q0 os ts
     | false=>false))
 | _,_=>true
def Yt (q0:Nat) (s s':AS):Prop:=∀ id,id < q0→s'.get id=s.get id
theorem Ho {id id':Nat} {b:A5} (h:id'≠id):∀ (l:List (Nat×A5)),look id' (dP id b l)=look id' l
 | []=>rfl
 | e::l=>by
   simp only [dP]
   split
   · rename_i hb
     have hb:=beq_true hb
     simp only [look]
     have h1:Nat.beq id id'=false:=by cases hq:Nat.beq id id' with
       | true=>exact absurd (beq_true hq).symm h
       | false=>rfl
     rw [hb,h1]
   · simp only [look,Ho h l]
section
variable {P:Program} {G:A8} {ops:Array Oper}
theorem qE {q0:Nat} {fr:List AV} {s s1:AS} {o:Oper} {hs hs':List Hn} {v:AV} {cd:List Cd} (h:XK P G ops fr s o hs=some (v,s1,hs',cd)) (hA:K0 o.op=true→dM hs=false) (hi:BU ops fr o=true→indep G q0 fr o=true) (hc:N7 P G cd) (ha:Bs o.op=false):Yt q0 s s1:=by
 intro id hid
 have hj:=Ph h hc
 cases hq:quiet o.op with
 | true=>rw [(GV hq hj).1]
 | false =>
   unfold XK at h
   split at h
   · rename_i hw
     have hi:=hi hw
     unfold indep at hi
     split at hi
     · rename_i t a ho;rw [ho] at hq;cases hq
     · rename_i t m k ok ho;rw [ho] at hq;cases hq
     · rename_i t a x ho
       unfold jZ at h
       rw [ho] at h
       simp only at h
       have h1:∃ a' x',Be G fr a=some a'∧Be G fr x=some x'∧JE P s t a' x'=some s1:=by
         rcases QP h hc with ⟨a',x',h2,h3,h4,_⟩ | h2
         · exact ⟨a',x',h2,h3,h4⟩
         · have h1:=Qv h2
           rw [JN] at h1
           unfold Mw at h1
           rw [ho] at h1
           simp only at h1
           split at h1
           · rename_i a' x' ha' hx'
             obtain ⟨s',hst,he⟩:=map_some h1
             injection he with he1 he2
             subst he2
             exact ⟨a',x',ha',hx',hst⟩
           · cases h1
       rw [BY] at hi
       obtain ⟨a',x',ha',hx',hst⟩:=h1
       rw [ha'] at hi
       unfold aa9 at hi
       split at hi
       · rename_i id' off heq
         cases heq
         unfold JE at hst
         split at hst
         · rename_i i id2 off2 hi2 heq2
           cases heq2
           split at hst
           · split at hst
             · cases hst
               have:=Nat.le_of_ble_eq_true hi
               exact Ho (by omega) _
             · cases hst
           · cases hst
         · cases hst
       · cases hi
     · rename_i cl ho
       split at hi
       · rename_i f hcl
         unfold jZ at h
         rw [ho] at h
         simp only [hcl] at h
         unfold UM at h
         split at h
         · split at h
           · cases h;rfl
           · cases h
         · have:=hA (by rw [ho];simp [K0,hcl])
           simp [dM] at this
         · have:=hA (by rw [ho];simp [K0,hcl])
           simp [dM] at this
         · have:=hA (by rw [ho];simp [K0,hcl])
           simp [dM] at this
         · cases h
       · rename_i hcl
         rw [ho] at hq
         simp [quiet,hcl] at hq
       · rw [ho] at hq;rw [ho,hq] at hi;cases hi
     · rename_i e ho;rw [ho] at ha;cases ha
     · rw [hq] at hi;cases hi
   · cases h;rfl
theorem Yt.refl (q0:Nat) (s:AS):Yt q0 s s:=fun _ _=>rfl
theorem Yt.trans {q0:Nat} {a b c:AS} (h:Yt q0 a b) (k:Yt q0 b c):Yt q0 a c:=fun id hid=>(k id hid).trans (h id hid)
theorem vA {q0:Nat} {l:List Oper} {q:Nat} {hs hs':List Hn} {fr fr':List AV} {s s':AS} {cd:List Cd} {t:List (List AV×AS×AV)} (h:v5 P G ops l q hs fr s=some (hs',cd,t,fr',s')) (hc:N7 P G cd) (hi:Jz G ops q0 l t=true) :
   LH P G (XS P G) H0 ops q l fr s t fr' s'∧(∀ x∈t,Yt q0 s x.2.1)∧Yt q0 s s':=by
 induction l generalizing q hs fr s cd t with
 | nil=>simp only [v5] at h;cases h;exact ⟨.nil,(fun x hx=>by cases hx),Yt.refl _ _⟩
 | cons o l ih =>
   simp only [v5] at h
   cases ha:Bs o.op with
   | true =>
     rw [ha] at h
     simp only at h
     unfold cI at h
     split at h
     · rename_i hs2 cd2 t2 fr2 s2 h2
       cases h
       have hi2:Jz G ops q0 l t2=true:=by
         simp only [Jz] at hi
         split at hi
         · exact hi
         · split at hi
           · exact hi
           · cases hi
       obtain ⟨k1,k2,k3⟩:=ih h2 (hc.R7).2 hi2
       refine ⟨.alloc ha k1,fun x hx=>?_,k3⟩
       rcases List.mem_cons.1 hx with rfl | hx
       · exact Yt.refl _ _
       · exact k2 x hx
     · cases h
   | false =>
     rw [ha] at h
     simp only at h
     split at h
     · rename_i v s1 hs1 cd1 h1
       unfold cI at h
       split at h
       · rename_i hs2 cd2 t2 fr2 s2 h2
         cases h
         obtain ⟨c1,c2⟩:=hc.R7
         have hi1:BU ops fr o=true→indep G q0 fr o=true:=by
           intro hw
           simp only [Jz,hw] at hi
           split at hi
           · assumption
           · cases hi
         have hi2:Jz G ops q0 l t2=true:=by
           simp only [Jz] at hi
           split at hi
           · exact hi
           · split at hi
             · exact hi
             · cases hi
         have hf:=qE (Om h1).1 (Om h1).2 hi1 c1 ha
         obtain ⟨k1,k2,k3⟩:=ih h2 c2 hi2
         refine ⟨.cons ha (Ph (Om h1).1 c1) k1,fun x hx=>?_,hf.trans k3⟩
         rcases List.mem_cons.1 hx with rfl | hx
         · exact Yt.refl _ _
         · exact hf.trans (k2 x hx)
       · cases h
     · cases h
theorem c8 {q0:Nat} {os:List Oper} {ts:List (List AV×AS×AV)} (h:Jz G ops q0 os ts=true) {i:Nat} {o:Oper} {x:List AV×AS×AV} (ho:os[i]?=some o) (hx:ts[i]?=some x) (hw:BU ops x.1 o=true):indep G q0 x.1 o=true:=by
 induction os generalizing ts i with
 | nil=>simp at ho
 | cons y os ih =>
   cases ts with
   | nil=>simp at hx
   | cons t ts =>
     simp only [Jz] at h
     cases i with
     | zero =>
       simp at ho hx;subst ho hx
       rw [hw] at h
       simp only at h
       split at h
       · assumption
       · cases h
     | succ i =>
       have h2:Jz G ops q0 os ts=true:=by
         split at h
         · exact h
         · split at h
           · exact h
           · cases h
       exact ih h2 (by simpa using ho) (by simpa using hx)
theorem jB {q0:Nat} {fr:List AV} {s0 s s2:AS} {o:Oper} {v:AV} (hq:quiet o.op=true) (hr:reads o.op=true) (hi:indep G q0 fr o=true) (h1:Yt q0 s0 s) (h2:Yt q0 s0 s2) (h:Mw P G fr s o=some (.val v s)):Mw P G fr s2 o=some (.val v s2):=by
 unfold indep at hi
 split at hi
 · rename_i t a ho
   rw [BY] at hi
   unfold Mw at h ⊢
   rw [ho] at h ⊢
   simp only at h ⊢
   obtain ⟨v',h3,h4⟩:=map_some h
   injection h4 with h4
   subst h4
   obtain ⟨b,h5,h6⟩:=bind_some h3
   rw [h5] at hi ⊢
   unfold acC at hi
   split at hi
   · rename_i heq;cases heq
     simp only [Option.bind_some]
     rw [show Ie P s2 t (.el _)=Ie P s t (.el _) from rfl,h6];rfl
   · rename_i id off heq;cases heq
     have hid:id < q0:=Nat.le_of_ble_eq_true hi
     have:Ie P s2 t (.ptr id off)=Ie P s t (.ptr id off):=by
       simp only [Ie]
       rw [h2 id hid,h1 id hid]
     simp only [Option.bind_some]
     rw [this,h6];rfl
   · cases hi
 · rename_i t m k ok ho
   rw [BY] at hi
   unfold Mw at h ⊢
   rw [ho] at h ⊢
   simp only at h ⊢
   unfold mpV at hi
   split at hi
   · rename_i id heq
     have hid:id < q0:=Nat.le_of_ble_eq_true hi
     rw [heq] at h ⊢
     cases hk:Be G fr k with
     | none=>rw [hk] at h;cases h
     | some b =>
       rw [hk] at h
       simp only at h ⊢
       obtain ⟨v',h3,h4⟩:=map_some h
       injection h4 with h4
       subst h4
       have:F5 P s2 t (.mp id) b ok=F5 P s t (.mp id) b ok:=by
         unfold F5
         simp only
         rw [h2 id hid,h1 id hid]
       rw [this,h3];rfl
   · cases hi
 · rename_i t a x ho;rw [ho] at hq;cases hq
 · rename_i cl ho
   split at hi
   · rename_i f hcl;rw [ho] at hq;simp [quiet,hcl] at hq
   · rename_i hcl
     unfold Mw at h ⊢
     rw [ho] at h ⊢
     simp only [OG,hcl] at h ⊢
     split at hi
     · rename_i x hx
       rw [hx] at h ⊢
       cases ht:cl.argTypes.toList with
       | nil=>rw [ht] at h;cases h
       | cons t1 ts =>
         cases ts with
         | cons _ _=>rw [ht] at h;cases h
         | nil =>
           rw [ht] at h
           simp only at h ⊢
           obtain ⟨v',h3,h4⟩:=map_some h
           injection h4 with h4
           subst h4
           obtain ⟨b,h5,h6⟩:=bind_some h3
           rw [BY,h5] at hi
           rw [h5]
           simp only [Option.bind_some]
           have:Rm P s2 t1 b=Rm P s t1 b:=by
             unfold slV at hi
             split at hi
             · rename_i heq;cases heq;unfold Rm;split<;>first | rfl | (simp_all;done)
             · rename_i heq;cases heq;unfold Rm;split<;>first | rfl | (simp_all;done)
             · cases hi
           rw [this,h6];rfl
     · cases hi
   · rename_i hn1 hn2
     rw [ho] at hr
     unfold reads at hr
     simp only at hr
     first
       | (cases hr;done)
       | (split at hr
          · rename_i hcl;exact absurd hcl hn2
          · cases hr)
 · rename_i e ho;rw [ho] at hq;cases hq
 · rename_i hn1 hn2 hn3 hn4 hn5
   exfalso
   unfold reads at hr
   split at hr
   · rename_i ho;exact hn1 _ _ ho
   · rename_i ho;exact hn2 _ _ _ _ ho
   · rename_i ho;exact hn4 _ ho
   · cases hr
theorem jO {id:Nat} {fr fr':List AV} {s s':AS} {r:List A5} {t:List (List AV×AS×AV)} {hs hs':List Hn} {cd:List Cd} (hord:Kw ops=true) (hr:lN P ops.toList=some r) (h:v5 P G ops ops.toList s.nx hs fr (s.hold r)=some (hs',cd,t,fr',s')) (hc:N7 P G cd) (hi:Jz G ops s.nx ops.toList t=true) (hst1:Ob P ops t s' s.nx r=true):J P G (XS P G) H0 (.code (.region id ops true) fr s .normal fr' s'):=by
 obtain ⟨htr,hfar,hfar'⟩:=vA h hc hi
 have hlen:t.length=ops.size:=by rw [htr.len,Array.length_toList]
 have hfk:∀ k,Yt s.nx (s.hold r) (C9 t s' k):=by
   intro k
   unfold C9
   split
   · rename_i x hx;exact hfar x (List.mem_of_getElem? hx)
   · exact hfar'
 obtain ⟨h0,hat⟩:=htr.at
 have hdst:∀ i o,ops[i]?=some o→Ci ops i=o.dst:=fun i o ho=>by unfold Ci;rw [ho];rfl
 obtain ⟨hfin,hfrs⟩:=htr.S6 (Ci ops) (GL t) fr 0 rfl (fun i o ho=>by rw [Nat.zero_add];exact hdst i o (by rw [← Array.getElem?_toList];exact ho)) (fun i=>.inl (by rw [Nat.zero_add]))
 rw [Nat.zero_add,Array.length_toList] at hfin
 have hall:∀ (i:Nat) (o:Oper),ops[i]?=some o→Bs o.op=false→J P G (XS P G) H0 (.op ops o (Iv fr (Ci ops) (GL t) (fun _=>true) i) (C9 t s' i) (.ret (GL t i)) (C9 t s' (i+1))):=by
   intro i o ho hna
   obtain ⟨fi,h1,h2⟩:=hat i o (Bv ho)
   have:=hfrs i _ h1
   simp only [Nat.zero_add] at this
   rcases h2 with ⟨_,h2⟩ | ⟨h2,_⟩
   · rw [← this]
     exact h2
   · rw [hna] at h2;cases h2
 have hallA:∀ (i:Nat) (o:Oper),ops[i]?=some o→Bs o.op=true→C9 t s' (i+1)=C9 t s' i∧GL t i=I8 ops (Iv fr (Ci ops) (GL t) (fun _=>true) i) o (s.nx+rk ops i):=by
   intro i o ho hya
   obtain ⟨fi,h1,h2⟩:=hat i o (Bv ho)
   have:=hfrs i _ h1
   simp only [Nat.zero_add] at this
   rcases h2 with ⟨h2,_⟩ | ⟨_,h2⟩
   · rw [hya] at h2;cases h2
   · rw [← this]
     exact h2
 have hna:∀ o:Oper,quiet o.op=true→Bs o.op=false:=by
   intro o hq
   cases hya:Bs o.op with
   | false=>rfl
   | true=>obtain ⟨e,he⟩:=Hg hya;rw [Kc he] at hq;cases hq
 have hnl:∀ o:Oper,calm o.op=false→Bs o.op=false:=by
   intro o hq
   cases hya:Bs o.op with
   | false=>rfl
   | true=>unfold calm at hq;rw [hya] at hq;cases hq
 have hsn:C9 t s' ops.size=s':=by
   unfold C9
   rw [List.getElem?_eq_none (by omega)]
 have hsk:∀ k,k≤ops.size→(t.map (fun x=>x.2.1)++[s'])[k]?=some (C9 t s' k):=by
   intro k hk
   unfold C9
   by_cases hkt:k < t.length
   · rw [List.getElem?_append_left (by simpa using hkt),List.getElem?_map,List.getElem?_eq_getElem hkt];rfl
   · have:k=t.length:=by omega
     subst this
     rw [List.getElem?_append_right (by simp)]
     simp
 have hloud:∀ l,l∈HW ops.toList 0→QE ops l:=by
   intro l hl
   obtain ⟨j,o',e,h5,h6⟩:=PW hl
   rw [Nat.zero_add] at e
   subst e
   exact ⟨o',by rw [← Array.getElem?_toList];exact h5,h6⟩
 have key:=J.draw (P:=P) (G:=G) (X:=XS P G) (H:=H0) (id:=id) (f0:=fr) (s0:=s) r (GL t) (C9 t s') h0 hord (fun i o ho hl=>hall i o ho (hnl o hl)) (fun i o ho hq=>by
   obtain ⟨h1,h2⟩:=GV hq (hall i o ho (hna o hq))
   refine ⟨h1,?_⟩
   rcases h2 with h2 | ⟨hw,h2⟩
   · exact .inl h2
   · refine .inr ⟨hw,fun k hk hwin=>?_⟩
     cases hrd:reads o.op with
     | false=>exact M4 hq hrd h2 _
     | true =>
       obtain ⟨fi,hti,_⟩:=hat i o (Bv ho)
       have hfi:=hfrs i _ hti
       simp only [Nat.zero_add] at hfi
       have hin:=c8 hi (Bv ho) hti (by rw [hfi];exact hw)
       rw [hfi] at hin
       exact jB hq hrd hin (hfk i) (hfk k) h2) (fun i o e ho he=>by
   have hya:Bs o.op=true:=by rw [he];rfl
   obtain ⟨h1,h2⟩:=hallA i o ho hya
   refine ⟨h1,?_⟩
   have hrk:rk ops i < r.length:=by
     rw [Zs hr]
     exact Vh (Bv ho) hya (by rw [Array.length_toList];exact (Array.getElem?_eq_some_iff.1 ho).1)
   cases hw:BU ops (Iv fr (Ci ops) (GL t) (fun _=>true) i) o with
   | false=>unfold I8 at h2;rw [hw] at h2;exact .inl ⟨rfl,h2⟩
   | true =>
     unfold I8 at h2;rw [hw] at h2
     obtain ⟨fi,hti,_⟩:=hat i o (Bv ho)
     have hfi:=hfrs i _ hti
     simp only [Nat.zero_add] at hfi
     have hal:NK P ops (Io ops.toList []) (HW ops.toList 0) (t.map (·.2.1)++[s']) ops.toList t 0 s.nx=true:=by
       unfold Ob at hst1
       split at hst1
       · simp at hrk
       · exact hst1
     obtain ⟨z,hz,hbx⟩:=UB hal (Bv ho) hti he (by rw [hfi];exact hw)
     rw [Nat.zero_add] at hbx
     exact .inr ⟨rfl,z,hz,hrk,h2,fun k hk hwin=>Vb hbx (hsk k hk) (by rw [Nat.zero_add];exact VJ hloud hwin)⟩)
 rw [← hfin,hsn] at key
 exact key
end
end AI
namespace AI
open Go Go.RowKit
def bO (P:Program) (G:A8) (ops:Array Oper) (c:Nat):List Oper→Nat→List Hn→List AV→AS→HT
 | [],_,hs,fr,s=>some (hs,[],[],fr,s)
 | o::l,i,hs,fr,s=>(match (match Nat.beq i c with
     | true=>XK P G ops fr s o hs
     | false=>kX P G ops fr s o hs) with
   | some (v,s1,hs1,cd)=>cI cd (fr,s,v) (bO P G ops c l (i+1) hs1 (Kl fr o.dst v) s1)
   | none=>none)
def PU (ms:List Nat) (c:Nat):List Oper→Nat→Bool
 | [],_=>true
 | o::l,i=>(match Nat.beq i c with
   | true=>!calm o.op
   | false=>(match K0 o.op with
     | true=>Nat.blt i c
     | false=>quiet o.op&&(!reads o.op||(Nat.blt i c&&Qs ms c i))))&&PU ms c l (i+1)
section
variable {P:Program} {G:A8} {ops:Array Oper}
theorem Sl {ms:List Nat} {c:Nat}:∀ {l:List Oper} {i j:Nat} {o:Oper},PU ms c l i=true→l[j]?=some o→(i+j=c→calm o.op=false)∧(i+j≠c→(K0 o.op=true∧i+j < c)∨(quiet o.op=true∧(reads o.op=true→i+j < c∧Qs ms c (i+j)=true))):=by
 intro l
 induction l with
 | nil=>intro i j o h ho;simp at ho
 | cons x l ih =>
   intro i j o h ho
   simp only [PU,Bool.and_eq_true] at h
   cases j with
   | zero =>
     simp at ho;subst ho
     have h1:=h.1
     split at h1
     · rename_i hb
       have:=Nat.eq_of_beq_eq_true hb
       exact ⟨fun _=>by simpa using h1,fun hn=>absurd this hn⟩
     · rename_i hb
       have:=Nat.ne_of_beq_eq_false hb
       refine ⟨fun hn=>absurd hn this,fun _=>?_⟩
       split at h1
       · rename_i hv
         exact .inl ⟨hv,Nat.le_of_ble_eq_true h1⟩
       · simp only [Bool.and_eq_true,Bool.or_eq_true,Bool.not_eq_true'] at h1
         refine .inr ⟨h1.1,fun hr=>?_⟩
         rcases h1.2 with h2 | h2
         · rw [hr] at h2;cases h2
         · exact ⟨Nat.le_of_ble_eq_true h2.1,h2.2⟩
   | succ j =>
     have:=ih (i:=i+1) (j:=j) h.2 (by simpa using ho)
     rw [show i+(j+1)=i+1+j by omega]
     exact this
theorem Q3 {ms:List Nat} {c:Nat} {l:List Oper} {i j:Nat} {o:Oper} (hl:PU ms c l i=true) (hj:l[j]?=some o):Bs o.op=false:=by
 have ho:=Sl hl hj
 cases ha:Bs o.op with
 | false=>rfl
 | true =>
   obtain ⟨e,he⟩:=Hg ha
   by_cases hic:i+j=c
   · have:=ho.1 hic;unfold calm at this;rw [ha] at this;simp at this
   · rcases ho.2 hic with ⟨h1,_⟩ | ⟨h1,_⟩
     · rw [he] at h1;cases h1
     · rw [Kc he] at h1;cases h1
theorem mH {fr:List AV} {s s1:AS} {o:Oper} {hs hs':List Hn} {v:AV} {cd:List Cd} (h:XK P G ops fr s o hs=some (v,s1,hs',cd)) (hv:K0 o.op=true) (hA:dM hs=false):s1=s:=by
 unfold XK at h
 split at h
 · unfold K0 at hv
   split at hv
   · rename_i cl ho
     split at hv
     · rename_i f hcl
       unfold jZ at h
       rw [ho] at h
       simp only [hcl] at h
       unfold UM at h
       split at h
       · split at h
         · cases h;rfl
         · cases h
       · simp [dM] at hA
       · simp [dM] at hA
       · simp [dM] at hA
       · cases h
     · cases hv
   · cases hv
 · cases h;rfl
theorem qX {c q:Nat} {ms:List Nat}:∀ {l:List Oper} {i:Nat} {hs hs':List Hn} {fr fr':List AV} {s s':AS} {cd:List Cd} {t:List (List AV×AS×AV)},bO P G ops c l i hs fr s=some (hs',cd,t,fr',s')→N7 P G cd→PU ms c l i=true→LH P G (XS P G) H0 ops q l fr s t fr' s'∧∀ j,j≤l.length→i+j≤c→C9 t s' j=s:=by
 intro l
 induction l with
 | nil =>
   intro i hs hs' fr fr' s s' cd t h hc hl;simp only [bO] at h;cases h
   exact ⟨.nil,fun j hj _=>by rfl⟩
 | cons o l ih =>
   intro i hs hs' fr fr' s s' cd t h hc hl
   simp only [bO] at h
   split at h
   · rename_i v s1 hs1 cd1 h1
     unfold cI at h
     split at h
     · rename_i hs2 cd2 t2 fr2 s2 h2
       cases h
       obtain ⟨c1,c2⟩:=hc.R7
       have ho:=Sl (j:=0) hl rfl
       have hna:Bs o.op=false:=Q3 (j:=0) hl rfl
       have hl2:PU ms c l (i+1)=true:=by
         simp only [PU,Bool.and_eq_true] at hl;exact hl.2
       have h3:XK P G ops fr s o hs=some (v,s1,hs1,cd1):=by
         split at h1
         · exact h1
         · exact (Om h1).1
       have hj:=Ph h3 c1
       obtain ⟨k1,k2⟩:=ih h2 c2 hl2
       refine ⟨.cons hna hj k1,fun j hjl hjc=>?_⟩
       cases j with
       | zero=>rfl
       | succ j =>
         have e1:C9 ((fr,s,v)::t2) s' (j+1)=C9 t2 s' j:=by unfold C9;simp
         rw [e1,k2 j (by simpa using hjl) (by omega)]
         have hic:i+0≠c:=by omega
         rcases ho.2 hic with ⟨hv,_⟩ | ⟨hq,_⟩
         · split at h1
           · rename_i hb;have:=Nat.eq_of_beq_eq_true hb;omega
           · exact mH h3 hv ((Om h1).2 hv)
         · exact (GV hq hj).1
     · cases h
   · cases h
theorem bA {id c:Nat} {fr fr':List AV} {s s':AS} {t:List (List AV×AS×AV)} {hs hs':List Hn} {cd:List Cd} (hord:Kw ops=true) (hcs:Nat.blt c ops.size=true) (hl:PU (Io ops.toList []) c ops.toList 0=true) (h:bO P G ops c ops.toList 0 hs fr s=some (hs',cd,t,fr',s')) (hc:N7 P G cd):J P G (XS P G) H0 (.code (.region id ops true) fr s .normal fr' s'):=by
 have hcl:c < ops.size:=Nat.le_of_ble_eq_true hcs
 obtain ⟨htr,hsm⟩:=qX (q:=s.nx) h hc hl
 have hlen:t.length=ops.size:=by rw [htr.len,Array.length_toList]
 obtain ⟨h0,hat⟩:=htr.at
 have hdst:∀ i o,ops[i]?=some o→Ci ops i=o.dst:=fun i o ho=>by unfold Ci;rw [ho];rfl
 obtain ⟨hfin,hfrs⟩:=htr.S6 (Ci ops) (GL t) fr 0 rfl (fun i o ho=>by rw [Nat.zero_add];exact hdst i o (by rw [← Array.getElem?_toList];exact ho)) (fun i=>.inl (by rw [Nat.zero_add]))
 rw [Nat.zero_add,Array.length_toList] at hfin
 have hinfo:∀ (i:Nat) (o:Oper),ops[i]?=some o→(i=c→calm o.op=false)∧(i≠c→(K0 o.op=true∧i < c)∨(quiet o.op=true∧(reads o.op=true→i < c∧Qs (Io ops.toList []) c i=true))):=by
   intro i o ho
   have:=Sl (j:=i) hl (Bv ho)
   rwa [Nat.zero_add] at this
 have hnal:∀ (i:Nat) (o:Oper),ops[i]?=some o→Bs o.op=false:=fun i o ho=>Q3 (j:=i) hl (Bv ho)
 have hall:∀ (i:Nat) (o:Oper),ops[i]?=some o→J P G (XS P G) H0 (.op ops o (Iv fr (Ci ops) (GL t) (fun _=>true) i) (C9 t s' i) (.ret (GL t i)) (C9 t s' (i+1))):=by
   intro i o ho
   obtain ⟨fi,h1,h2⟩:=hat i o (Bv ho)
   have:=hfrs i _ h1
   simp only [Nat.zero_add] at this
   rcases h2 with ⟨_,h2⟩ | ⟨h2,_⟩
   · rw [← this]
     exact h2
   · rw [hnal i o ho] at h2;cases h2
 have hsn:C9 t s' ops.size=s':=by
   unfold C9
   rw [List.getElem?_eq_none (by omega)]
 have hsame:∀ k,k≤c→C9 t s' k=s:=fun k hk=>hsm k (by rw [Array.length_toList];omega) (by omega)
 have hloud:QE ops c:=by
   have ho:ops[c]?=some ops[c]:=Array.getElem?_eq_getElem hcl
   exact ⟨_,ho,(hinfo c _ ho).1 rfl⟩
 have key:=J.draw (P:=P) (G:=G) (X:=XS P G) (H:=H0) (id:=id) (f0:=fr) (s0:=s) [] (GL t) (C9 t s') h0 hord (fun i o ho _=>hall i o ho) (fun i o ho hq=>by
   obtain ⟨h1,h2⟩:=GV hq (hall i o ho)
   refine ⟨h1,?_⟩
   rcases h2 with h2 | ⟨hw,h2⟩
   · exact .inl h2
   · refine .inr ⟨hw,fun k hk hwin=>?_⟩
     cases hrd:reads o.op with
     | false=>exact M4 hq hrd h2 _
     | true =>
       have hic:i≠c:=fun e=>by
         subst e
         obtain ⟨o2,ho2,hcm⟩:=hloud
         rw [ho] at ho2;cases ho2
         rw [SU hq] at hcm;cases hcm
       obtain ⟨hlt,hd⟩:i < c∧Qs (Io ops.toList []) c i=true:=by
         rcases (hinfo i o ho).2 hic with ⟨hv,_⟩ | ⟨_,h3⟩
         · exfalso
           unfold K0 at hv
           split at hv
           · rename_i cl hop
             split at hv
             · rename_i f hcal
               rw [hop] at hq
               simp [quiet,hcal] at hq
             · cases hv
           · cases hv
         · exact h3 hrd
       have hkc:=hwin.2 c hloud hd
       rw [hsame k hkc]
       rw [hsame i (by omega)] at h2
       exact h2) (fun i o e ho he=>by
   have:=hnal i o ho
   rw [he] at this
   cases this)
 rw [← hfin,hsn] at key
 exact key
end
end AI
namespace AI
open Go Go.RowKit
def kR (G:A8) (fr:List AV) (o:Oper) (hs:List Hn):Option (List Nat):=match o.op with
 | .store _ a _=>(match Be G fr a with
   | some (.ptr id _)=>some [id]
   | _=>none)
 | .mapUpdate _ m _ _=>(match AZ G fr m with
   | some (.mp id)=>some [id]
   | _=>none)
 | .call cl=>(match cl.callee with
   | .value _=>(match hs with
     | .w _::_=>some []
     | .u _ _ _ ups _::_=>some (ups.map (·.1))
     | .cn _ h _ _ _::_=>some (h.map (·.1))
     | _=>none)
   | .builtin .append=>(match hs with
     | .g _ _ _::_=>some []
     | .ae _::_=>some []
     | _=>none)
   | _=>(match quiet o.op with
     | true=>some []
     | false=>none))
 | op=>(match quiet op with
   | true=>some []
   | false=>none)
def TI (G:A8) (ops:Array Oper) (fr:List AV) (o:Oper) (hs:List Hn):Option (List Nat):=match BU ops fr o with
 | true=>kR G fr o hs
 | false=>some []
abbrev HA:=Option (List Hn×List Cd×List (List AV×AS×AV)×List (List Nat)×List AV×AS)
def sU (cd:List Cd) (x:List AV×AS×AV) (T:List Nat):HA→HA
 | some (hs,cd',t,Ts,fr,s)=>some (hs,cd++cd',x::t,T::Ts,fr,s)
 | none=>none
def aR (P:Program) (G:A8) (ops:Array Oper):List Oper→List Hn→List AV→AS→HA
 | [],hs,fr,s=>some (hs,[],[],[],fr,s)
 | o::l,hs,fr,s=>(match Bs o.op with
   | true=>none
   | false=>(match TI G ops fr o hs with
     | some T=>(match XK P G ops fr s o hs with
       | some (v,s1,hs1,cd)=>sU cd (fr,s,v) T (aR P G ops l hs1 (Kl fr o.dst v) s1)
       | none=>none)
     | none=>none))
def lS (G:A8) (fr:List AV) (o:Oper):Option (Option Nat):=match o.op with
 | .load _ a=>(match AZ G fr a with
   | some (.ptr id _)=>some (some id)
   | some (.el _)=>some none
   | _=>none)
 | .lookup _ m _ _=>(match AZ G fr m with
   | some (.mp id)=>some (some id)
   | _=>none)
 | .call cl=>(match cl.callee with
   | .builtin .len=>(match cl.args.toList with
     | [x]=>(match slV (AZ G fr x) with
       | true=>some none
       | false=>none)
     | _=>none)
   | _=>none)
 | _=>none
def eB (a:Nat):List Nat→Bool
 | []=>false
 | b::l=>(match Nat.beq a b with
   | true=>true
   | false=>eB a l)
def P7 (ms:List Nat) (id i:Nat):List (List Nat)→Nat→Bool
 | [],_=>true
 | T::Ts,l=>(match eB id T with
   | true=>(match Nat.blt l i with
     | true=>Qs ms i l
     | false=>(match Nat.blt i l with
       | true=>Qs ms l i
       | false=>true))
   | false=>true)&&P7 ms id i Ts (l+1)
def W9 (G:A8) (ops:Array Oper) (ms:List Nat) (Ts:List (List Nat)):List Oper→List (List AV×AS×AV)→Nat→Bool
 | o::os,t::ts,i=>(match BU ops t.1 o with
   | false=>true
   | true=>(match reads o.op with
     | false=>true
     | true=>(match lS G t.1 o with
       | none=>false
       | some none=>true
       | some (some id)=>P7 ms id i Ts 0)))&&W9 G ops ms Ts os ts (i+1)
 | _,_,_=>true
theorem WD {a:Nat}:∀ {l:List Nat},eB a l=true↔a∈l
 | []=>by simp [eB]
 | b::l=>by
   simp only [eB]
   cases hb:Nat.beq a b with
   | true=>have:=Nat.eq_of_beq_eq_true hb;simp [this]
   | false =>
     have:=Nat.ne_of_beq_eq_false hb
     simp [WD (l:=l),this]
theorem W1 {id:Nat}:∀ (l:List (Nat×A5)) (s:AS),id∉l.map (·.1)→(s.QV l).get id=s.get id
 | [],_,_=>rfl
 | e::l,s,h=>by
   simp only [List.map_cons,List.mem_cons,not_or] at h
   rw [AS.QV,W1 l _ h.2]
   exact Ho h.1 _
theorem Xj {id:Nat}:∀ {l:List (Nat×A5)} (m:List (Nat×A5)),id∉l.map (·.1)→look id (l++m)=look id m
 | [],_,_=>rfl
 | e::l,m,h=>by
   simp only [List.map_cons,List.mem_cons,not_or] at h
   simp only [List.cons_append,look]
   have hb:Nat.beq e.1 id=false:=by
     cases hq:Nat.beq e.1 id with
     | false=>rfl
     | true=>exact absurd (Nat.eq_of_beq_eq_true hq).symm h.1
   rw [hb]
   exact Xj m h.2
theorem U2 {id:Nat}:∀ (l:List (Nat×Nat)) (s:AS),(s.OL l).get id=s.get id
 | [],_=>rfl
 | e::l,s=>by rw [AS.OL,U2 l];rfl
section
variable {P:Program} {G:A8} {ops:Array Oper}
theorem cZ {fr:List AV} {s s1:AS} {o:Oper} {hs hs':List Hn} {v:AV} {cd:List Cd} {T:List Nat} (h:XK P G ops fr s o hs=some (v,s1,hs',cd)) (hT:TI G ops fr o hs=some T) (hc:N7 P G cd) (ha:Bs o.op=false) (id:Nat) (hid:id∉T):s1.get id=s.get id:=by
 have hj:=Ph h hc
 cases hq:quiet o.op with
 | true=>rw [(GV hq hj).1]
 | false =>
   unfold XK at h
   unfold TI at hT
   split at h
   · rename_i hw
     rw [hw] at hT
     simp only at hT
     unfold kR at hT
     split at hT
     · rename_i t a x ho
       unfold jZ at h
       rw [ho] at h
       simp only at h
       have h1:∃ a' x',Be G fr a=some a'∧Be G fr x=some x'∧JE P s t a' x'=some s1:=by
         rcases QP h hc with ⟨a',x',h2,h3,h4,_⟩ | h2
         · exact ⟨a',x',h2,h3,h4⟩
         · have h1:=Qv h2
           rw [JN] at h1
           unfold Mw at h1
           rw [ho] at h1
           simp only at h1
           split at h1
           · rename_i a' x' ha' hx'
             obtain ⟨s',hst,he⟩:=map_some h1
             injection he with he1 he2
             subst he2
             exact ⟨a',x',ha',hx',hst⟩
           · cases h1
       obtain ⟨a',x',ha',hx',hst⟩:=h1
       rw [ha'] at hT
       split at hT
       · rename_i id' off heq
         cases heq
         cases hT
         simp only [List.mem_singleton] at hid
         unfold JE at hst
         split at hst
         · rename_i i id2 off2 hi2 heq2
           cases heq2
           split at hst
           · split at hst
             · cases hst
               exact Ho hid _
             · cases hst
           · cases hst
         · cases hst
       · cases hT
     · rename_i t m k x ho
       unfold jZ at h
       rw [ho] at h
       simp only at h
       split at hT
       · rename_i id' heq
         rw [heq] at h
         cases hT
         simp only [List.mem_singleton] at hid
         simp only at h
         split at h
         · split at h
           · have set_far:∀ kk x' s2,HQ P s t (.mp id') kk x'=some s2→s2.get id=s.get id:=by
               intro kk x' s2 h2
               unfold HQ at h2
               repeat' split at h2
               all_goals first
                 | (cases h2;done)
                 | (rename_i heq2;cases heq2;cases h2;exact Ho hid _)
                 | (simp_all only [AV.mp.injEq,Option.some.injEq];subst_vars;exact Ho hid _)
             unfold uN at h
             split at h
             · cases h;exact set_far _ _ _ hc.1
             · cases h
               exact Ho hid _
             · cases h
           · cases h
         · cases h
       · cases hT
     · rename_i cl ho
       split at hT
       · rename_i f hcl
         unfold jZ at h
         rw [ho] at h
         simp only [hcl] at h
         unfold UM at h
         split at h
         · split at h
           · cases h;rfl
           · cases h
         · cases hT
         · split at h
           · cases h
             cases hT
             rw [U2]
             exact W1 _ _ hid
           · cases h
         · split at h
           · cases h
             cases hT
             exact Xj _ hid
           · cases h
         · cases h
       · rename_i hcl
         unfold jZ at h
         rw [ho] at h
         simp only [hcl] at h
         split at hT
         · split at h
           · split at h
             · split at h
               · unfold rD at h
                 simp only at h
                 split at h
                 · cases h;rfl
                 · split at h
                   · split at h
                     · cases h;rfl
                     · cases h
                   · cases h
                 · cases h
               · cases h
             · cases h
           · cases h
         · split at h
           · split at h
             · split at h
               · unfold rD at h
                 simp only at h
                 cases h;rfl
               · cases h
             · cases h
           · cases h
         · cases hT
       · rw [hq] at hT;cases hT
     · rw [hq] at hT;cases hT
   · cases h;rfl
theorem YW {fr:List AV} {o:Oper} {hs:List Hn} {T:List Nat} (hT:TI G ops fr o hs=some T) {id:Nat} (h:id∈T) (ha:Bs o.op=false):calm o.op=false:=by
 unfold calm
 rw [ha]
 simp only
 cases hq:quiet o.op with
 | false=>rfl
 | true =>
   exfalso
   unfold TI at hT
   split at hT
   · unfold kR at hT
     split at hT
     · rename_i ho;rw [ho] at hq;cases hq
     · rename_i ho;rw [ho] at hq;cases hq
     · rename_i cl ho
       split at hT
       · rename_i hcl;rw [ho] at hq;simp [quiet,hcl] at hq
       · split at hT
         · cases hT;cases h
         · cases hT;cases h
         · cases hT
       · rw [hq] at hT;cases hT;cases h
     · rw [hq] at hT;cases hT;cases h
   · cases hT;cases h
theorem qF {q:Nat}:∀ {l:List Oper} {hs hs':List Hn} {fr fr':List AV} {s s':AS} {cd:List Cd} {t:List (List AV×AS×AV)} {Ts:List (List Nat)},aR P G ops l hs fr s=some (hs',cd,t,Ts,fr',s')→N7 P G cd →
   LH P G (XS P G) H0 ops q l fr s t fr' s'∧(∀ o∈l,Bs o.op=false)∧(∀ (i:Nat) id,i < l.length→(∀ T,Ts[i]?=some T→id∉T)→(C9 t s' (i+1)).get id=(C9 t s' i).get id)∧∀ (i:Nat) o T id,l[i]?=some o→Ts[i]?=some T→id∈T→calm o.op=false:=by
 intro l
 induction l with
 | nil =>
   intro hs hs' fr fr' s s' cd t Ts h hc
   simp only [aR] at h
   cases h
   exact ⟨.nil,(fun o h=>by cases h),(fun i id h=>by simp at h),fun i o T id h=>by simp at h⟩
 | cons o l ih =>
   intro hs hs' fr fr' s s' cd t Ts h hc
   simp only [aR] at h
   split at h
   · cases h
   · rename_i ha
     split at h
     · rename_i T hT
       split at h
       · rename_i v s1 hs1 cd1 h1
         unfold sU at h
         split at h
         · rename_i hs2 cd2 t2 Ts2 fr2 s2 h2
           cases h
           obtain ⟨c1,c2⟩:=hc.R7
           obtain ⟨k1,k2,k3,k4⟩:=ih h2 c2
           refine ⟨.cons ha (Ph h1 c1) k1,fun o' ho'=>?_,fun i id hi hno=>?_,fun i o' T' id ho' hT' hid=>?_⟩
           · rcases List.mem_cons.1 ho' with rfl | ho'
             · exact ha
             · exact k2 o' ho'
           · cases i with
             | zero =>
               have e1:C9 ((fr,s,v)::t2) s' 0=s:=rfl
               have e2:C9 ((fr,s,v)::t2) s' (0+1)=s1:=by
                 rw [show C9 ((fr,s,v)::t2) s' (0+1)=C9 t2 s' 0 by unfold C9;simp]
                 exact k1.at.1
               rw [e1,e2]
               exact cZ h1 hT c1 ha id (hno T rfl)
             | succ i =>
               have e:∀ j,C9 ((fr,s,v)::t2) s' (j+1)=C9 t2 s' j:=fun j=>by unfold C9;simp
               rw [e,e]
               exact k3 i id (by simpa using hi) (fun T' h'=>hno T' (by simpa using h'))
           · cases i with
             | zero=>simp at ho' hT';subst ho' hT';exact YW hT hid ha
             | succ i=>exact k4 i o' T' id (by simpa using ho') (by simpa using hT') hid
         · cases h
       · cases h
     · cases h
theorem SQ {ms:List Nat} {id i:Nat}:∀ {Ts:List (List Nat)} {l0:Nat},P7 ms id i Ts l0=true→∀ {l:Nat} {T:List Nat},Ts[l]?=some T→id∈T→(l0+l < i→Qs ms i (l0+l)=true)∧(i < l0+l→Qs ms (l0+l) i=true):=by
 intro Ts
 induction Ts with
 | nil=>intro l0 _ l T h;simp at h
 | cons T0 Ts ih =>
   intro l0 h l T hT hid
   simp only [P7,Bool.and_eq_true] at h
   cases l with
   | zero =>
     simp at hT;subst hT
     have h1:=h.1
     rw [WD.2 hid] at h1
     simp only at h1
     constructor
     · intro hlt
       have e:Nat.blt l0 i=true:=Nat.ble_eq_true_of_le hlt
       rw [e] at h1;exact h1
     · intro hlt
       have e:Nat.blt l0 i=false:=by
         cases hq:Nat.blt l0 i with
         | false=>rfl
         | true=>have:=Nat.le_of_ble_eq_true hq;omega
       have e2:Nat.blt i l0=true:=Nat.ble_eq_true_of_le hlt
       rw [e,e2] at h1;exact h1
   | succ l =>
     have:=ih h.2 (l:=l) (by simpa using hT) hid
     rw [show l0+(l+1)=l0+1+l by omega]
     exact this
theorem hY {ms:List Nat} {Ts:List (List Nat)}:∀ {os:List Oper} {ts:List (List AV×AS×AV)} {i:Nat},W9 G ops ms Ts os ts i=true→∀ {j:Nat} {o:Oper} {x:List AV×AS×AV},os[j]?=some o→ts[j]?=some x→BU ops x.1 o=true→reads o.op=true→∃ r,lS G x.1 o=some r∧∀ id,r=some id→P7 ms id (i+j) Ts 0=true:=by
 intro os
 induction os with
 | nil=>intro ts i _ j o x h;simp at h
 | cons y os ih =>
   intro ts i h j o x ho hx hw hr
   cases ts with
   | nil=>simp at hx
   | cons t ts =>
     simp only [W9,Bool.and_eq_true] at h
     cases j with
     | zero =>
       simp at ho hx;subst ho hx
       have h1:=h.1
       rw [hw,hr] at h1
       simp only at h1
       split at h1
       · cases h1
       · rename_i hq;exact ⟨none,hq,fun id h=>by cases h⟩
       · rename_i id hq;exact ⟨some id,hq,fun id' h=>by cases h;exact h1⟩
     | succ j =>
       have:=ih h.2 (j:=j) (by simpa using ho) (by simpa using hx) hw hr
       rw [show i+(j+1)=i+1+j by omega]
       exact this
theorem pA {fr:List AV} {s s2:AS} {o:Oper} {v:AV} {r:Option Nat} (hr:lS G fr o=some r) (hs:∀ id,r=some id→s2.get id=s.get id) (h:Mw P G fr s o=some (.val v s)):Mw P G fr s2 o=some (.val v s2):=by
 unfold lS at hr
 split at hr
 · rename_i t a ho
   rw [BY] at hr
   unfold Mw at h ⊢
   rw [ho] at h ⊢
   simp only at h ⊢
   obtain ⟨v',h3,h4⟩:=map_some h
   injection h4 with h4
   subst h4
   obtain ⟨b,h5,h6⟩:=bind_some h3
   rw [h5] at hr ⊢
   split at hr
   · rename_i id off heq;cases heq
     cases hr
     have:Ie P s2 t (.ptr id off)=Ie P s t (.ptr id off):=by
       simp only [Ie]
       rw [hs id rfl]
     simp only [Option.bind_some]
     rw [this,h6];rfl
   · rename_i heq;cases heq
     simp only [Option.bind_some]
     rw [show Ie P s2 t (.el _)=Ie P s t (.el _) from rfl,h6];rfl
   · cases hr
 · rename_i t m k ok ho
   rw [BY] at hr
   unfold Mw at h ⊢
   rw [ho] at h ⊢
   simp only at h ⊢
   split at hr
   · rename_i id heq
     cases hr
     rw [heq] at h ⊢
     split at h
     · rename_i a b ha hb
       cases ha
       obtain ⟨v',h3,h4⟩:=map_some h
       injection h4 with h4
       subst h4
       have:F5 P s2 t (.mp id) b ok=F5 P s t (.mp id) b ok:=by
         simp only [F5]
         rw [hs id rfl]
       rw [this,h3];rfl
     · cases h
   · cases hr
 · rename_i cl ho
   split at hr
   · rename_i hcl
     unfold Mw at h ⊢
     rw [ho] at h ⊢
     simp only [OG,hcl] at h ⊢
     split at hr
     · rename_i x hx
       rw [hx] at h ⊢
       cases ht:cl.argTypes.toList with
       | nil=>rw [ht] at h;cases h
       | cons t1 ts =>
         cases ts with
         | cons _ _=>rw [ht] at h;cases h
         | nil =>
           rw [ht] at h
           simp only at h ⊢
           obtain ⟨v',h3,h4⟩:=map_some h
           injection h4 with h4
           subst h4
           obtain ⟨b,h5,h6⟩:=bind_some h3
           rw [BY,h5] at hr
           rw [h5]
           simp only [Option.bind_some]
           split at hr
           · rename_i hsl
             have:Rm P s2 t1 b=Rm P s t1 b:=by
               unfold slV at hsl
               split at hsl
               · rename_i heq;cases heq;unfold Rm;split<;>first | rfl | (simp_all;done)
               · rename_i heq;cases heq;unfold Rm;split<;>first | rfl | (simp_all;done)
               · cases hsl
             rw [this,h6];rfl
           · cases hr
     · cases hr
   · cases hr
 · cases hr
theorem lB {id:Nat} {fr fr':List AV} {s s':AS} {t:List (List AV×AS×AV)} {Ts:List (List Nat)} {hs hs':List Hn} {cd:List Cd} (hord:Kw ops=true) (h:aR P G ops ops.toList hs fr s=some (hs',cd,t,Ts,fr',s')) (hr:W9 G ops (Io ops.toList []) Ts ops.toList t 0=true) (hc:N7 P G cd):J P G (XS P G) H0 (.code (.region id ops true) fr s .normal fr' s'):=by
 obtain ⟨htr,hna,hst,hlo⟩:=qF (q:=s.nx) h hc
 have hlen:t.length=ops.size:=by rw [htr.len,Array.length_toList]
 obtain ⟨h0,hat⟩:=htr.at
 have hdst:∀ i o,ops[i]?=some o→Ci ops i=o.dst:=fun i o ho=>by unfold Ci;rw [ho];rfl
 obtain ⟨hfin,hfrs⟩:=htr.S6 (Ci ops) (GL t) fr 0 rfl (fun i o ho=>by rw [Nat.zero_add];exact hdst i o (by rw [← Array.getElem?_toList];exact ho)) (fun i=>.inl (by rw [Nat.zero_add]))
 rw [Nat.zero_add,Array.length_toList] at hfin
 have hnal:∀ (i:Nat) (o:Oper),ops[i]?=some o→Bs o.op=false:=fun i o ho=>hna o (List.mem_of_getElem? (Bv ho))
 have hall:∀ (i:Nat) (o:Oper),ops[i]?=some o→J P G (XS P G) H0 (.op ops o (Iv fr (Ci ops) (GL t) (fun _=>true) i) (C9 t s' i) (.ret (GL t i)) (C9 t s' (i+1))):=by
   intro i o ho
   obtain ⟨fi,h1,h2⟩:=hat i o (Bv ho)
   have:=hfrs i _ h1
   simp only [Nat.zero_add] at this
   rcases h2 with ⟨_,h2⟩ | ⟨h2,_⟩
   · rw [← this]
     exact h2
   · rw [hnal i o ho] at h2;cases h2
 have hsn:C9 t s' ops.size=s':=by
   unfold C9
   rw [List.getElem?_eq_none (by omega)]
 have hTl:∀ (l:Nat) T id,Ts[l]?=some T→id∈T→l < ops.size→QE ops l:=by
   intro l T id hT hid hl
   exact ⟨ops[l],Array.getElem?_eq_getElem hl,hlo l ops[l] T id (Bv (Array.getElem?_eq_getElem hl)) hT hid⟩
 have hsame:∀ (bx:Nat) (d i:Nat),i+d≤ops.size→(∀ l,i≤l→l < i+d→∀ T,Ts[l]?=some T→bx∉T)→(C9 t s' (i+d)).get bx=(C9 t s' i).get bx:=by
   intro bx d
   induction d with
   | zero=>intro i _ _;rfl
   | succ d ih =>
     intro i hle hno
     rw [show i+(d+1)=(i+d)+1 by omega,hst (i+d) bx (by rw [Array.length_toList];omega) (hno (i+d) (by omega) (by omega))]
     exact ih i (by omega) (fun l h1 h2=>hno l h1 (by omega))
 have key:=J.draw (P:=P) (G:=G) (X:=XS P G) (H:=H0) (id:=id) (f0:=fr) (s0:=s) [] (GL t) (C9 t s') h0 hord (fun i o ho _=>hall i o ho) (fun i o ho hq=>by
   obtain ⟨h1,h2⟩:=GV hq (hall i o ho)
   refine ⟨h1,?_⟩
   rcases h2 with h2 | ⟨hw,h2⟩
   · exact .inl h2
   · refine .inr ⟨hw,fun k hk hwin=>?_⟩
     cases hrd:reads o.op with
     | false=>exact M4 hq hrd h2 _
     | true =>
       have hil:i < ops.size:=(Array.getElem?_eq_some_iff.1 ho).1
       obtain ⟨fi,hti,_⟩:=hat i o (Bv ho)
       have hfi:=hfrs i _ hti
       simp only [Nat.zero_add] at hfi
       obtain ⟨r,hr1,hr2⟩:=hY hr (Bv ho) hti (by rw [hfi];exact hw) hrd
       rw [hfi] at hr1
       refine pA hr1 (fun bx hbx=>?_) h2
       have hto:=hr2 bx hbx
       rw [Nat.zero_add] at hto
       rcases Nat.lt_or_ge k i with hki | hki
       · have:=hsame bx (i - k) k (by omega) (fun l h3 h4 T hT hm=>by
           have hd:=(SQ hto hT hm).1 (by omega)
           rw [Nat.zero_add] at hd
           have:=hwin.1 l (hTl l T bx hT hm (by omega)) hd
           omega)
         rw [show k+(i - k)=i by omega] at this
         exact this.symm
       · have:=hsame bx (k - i) i (by omega) (fun l h3 h4 T hT hm=>by
           have hll:=hTl l T bx hT hm (by omega)
           rcases Nat.lt_or_ge i l with h5 | h5
           · have hd:=(SQ hto hT hm).2 (by omega)
             rw [Nat.zero_add] at hd
             have:=hwin.2 l hll hd
             omega
           · have:l=i:=by omega
             subst this
             obtain ⟨o2,ho2,hcm⟩:=hll
             rw [ho] at ho2;cases ho2
             rw [SU hq] at hcm;cases hcm)
         rw [show i+(k - i)=k by omega] at this
         exact this) (fun i o e ho he=>by
   have:=hnal i o ho
   rw [he] at this
   cases this)
 rw [← hfin,hsn] at key
 exact key
end
end AI
namespace AI
open Go Go.RowKit
abbrev HS:=Option (List Hn×List Cd×List AV×AS)
def tO (cd:List Cd):HS→HS
 | some (hs,cd',fr,s)=>some (hs,cd++cd',fr,s)
 | none=>none
abbrev HC:=Option (AX×List Hn×List Cd×List AV×AS)
def UC (cd:List Cd):HC→HC
 | some (e,hs,cd',fr,s)=>some (e,hs,cd++cd',fr,s)
 | none=>none
def wC (P:Program) (G:A8) (ops:Array Oper) (fr:List AV) (s:AS) (o:Oper):List Hn→HO
 | .p v s1::hs=>(match BU ops fr o with
   | true=>(match OS P G fr s o with
     | some (.ent f args)=>some (v,s1,hs,[.callP f args s v s1])
     | some (.pan v')=>some (v',s,hs,[])
     | _=>none)
   | false=>none)
 | .q v pre tp ups tu::hs=>(match BU ops fr o with
   | true=>(match OS P G fr s o with
     | some (.ent f args)=>some (v,(s.QV ups).OL tu,hs,[.callU f args (.pan v) pre tp ups tu,.eqx (Se s pre) (N3 pre) (Vf s.F tp) (OA tp)])
     | _=>none)
   | false=>none)
 | _=>none
def j6 (P:Program) (G:A8) (ops:Array Oper):List Oper→List Hn→List AV→AS→HC
 | [],hs,fr,s=>some (.normal,hs,[],fr,s)
 | o::l,hs,fr,s=>(match wC P G ops fr s o hs with
   | some (v,s1,hs1,cd)=>some (.pan v,hs1,cd,fr,s1)
   | none=>(match XK P G ops fr s o hs with
     | some (v,s1,hs1,cd)=>UC cd (j6 P G ops l hs1 (Kl fr o.dst v) s1)
     | none=>none))
def WI (P:Program) (G:A8) (ops:Array Oper):List Oper→List Hn→List AV→AS→HS
 | [],hs,fr,s=>some (hs,[],fr,s)
 | o::l,hs,fr,s=>(match kX P G ops fr s o hs with
   | some (v,s1,hs1,cd)=>tO cd (WI P G ops l hs1 (Kl fr o.dst v) s1)
   | none=>none)
def steady (op:Op):Bool:=match quiet op with
 | true=>true
 | false=>(match op with
   | .call cl=>(match cl.callee with | .value _=>true | _=>false)
   | _=>false)
def MO:List Oper→Bool
 | []=>true
 | o::l=>(match steady o.op with | true=>MO l | false=>false)
def abE:HS→HC
 | some (hs,cd,fr,s)=>some (.normal,hs,cd,fr,s)
 | none=>none
def ab2 (P:Program) (G:A8) (ops:Array Oper) (hs:List Hn) (fr:List AV) (s:AS):HC:=match lN P ops.toList with
 | some r=>(match v5 P G ops ops.toList s.nx hs fr (s.hold r) with
   | some (hs',cd,t,fr',s')=>(match Jz G ops s.nx ops.toList t with
     | true=>(match Ob P ops t s' s.nx r with
       | true=>some (.normal,hs',cd,fr',s')
       | false=>none)
     | false=>none)
   | none=>none)
 | none=>none
def kM (P:Program) (G:A8) (ops:Array Oper) (c:Nat) (hs:List Hn) (fr:List AV) (s:AS):HC:=match Nat.blt c ops.size with
 | true=>(match PU (Io ops.toList []) c ops.toList 0 with
   | true=>(match bO P G ops c ops.toList 0 hs fr s with
     | some (hs',cd,_,fr',s')=>some (.normal,hs',cd,fr',s')
     | none=>none)
   | false=>none)
 | false=>none
def sW (P:Program) (G:A8) (ops:Array Oper) (hs:List Hn) (fr:List AV) (s:AS):HC:=match aR P G ops ops.toList hs fr s with
 | some (hs',cd,t,Ts,fr',s')=>(match W9 G ops (Io ops.toList []) Ts ops.toList t 0 with
   | true=>some (.normal,hs',cd,fr',s')
   | false=>none)
 | none=>none
def sP (P:Program) (G:A8) (ops:Array Oper) (fr:List AV) (s:AS):List Hn→HC
 | .z c::hs=>kM P G ops c hs fr s
 | .za::hs=>sW P G ops hs fr s
 | hs=>(match MO ops.toList with
   | true=>abE (WI P G ops ops.toList hs fr s)
   | false=>ab2 P G ops hs fr s)
def kP (P:Program) (G:A8) (ops:Array Oper) (d:Bool) (hs:List Hn) (fr:List AV) (s:AS):HC:=match d with
 | false=>j6 P G ops ops.toList hs fr s
 | true=>(match Kw ops with
   | true=>sP P G ops fr s hs
   | false=>none)
def Ky (P:Program) (G:A8):Code→List Hn→List AV→AS→HC
 | .skip,hs,fr,s=>some (.normal,hs,[],fr,s)
 | .exit id,hs,fr,s=>some (.exit id,hs,[],fr,s)
 | .ret,hs,fr,s=>some (.ret,hs,[],fr,s)
 | .seq x y,hs,fr,s=>(match Ky P G x hs fr s with
   | some (.normal,hs1,cd,fr1,s1)=>UC cd (Ky P G y hs1 fr1 s1)
   | r=>r)
 | .cond q x y,hs,fr,s=>(match AZ G fr q with
   | some (.sc (.bool true))=>Ky P G x hs fr s
   | some (.sc (.bool false))=>Ky P G y hs fr s
   | _=>none)
 | .block id c,hs,fr,s=>(match Ky P G c hs fr s with
   | some (e,hs1,cd,fr1,s1)=>some (EH id e,hs1,cd,fr1,s1)
   | none=>none)
 | .region _ ops d,hs,fr,s=>(match hs with
   | .n l::hs=>(match nzs l fr s with
     | some (fr2,s2)=>kP P G ops d hs fr2 s2
     | none=>none)
   | .f id b b2::hs=>(match look id s.h with
     | some b0=>UC [.eqx [some b0] [some b] [] [],.rd s.nr b b2] (kP P G ops d hs fr ⟨dP id b2 s.h,s.nx,(s.nr,0)::s.F,s.nr+1⟩)
     | none=>none)
   | hs=>kP P G ops d hs fr s)
 | _,_,_,_=>none
section
variable {P:Program} {G:A8} {ops:Array Oper}
theorem qS {fr:List AV} {s s1:AS} {o:Oper} {hs hs':List Hn} {v:AV} {cd:List Cd} (h:wC P G ops fr s o hs=some (v,s1,hs',cd)) (hc:N7 P G cd):J P G (XS P G) H0 (.op ops o fr s (.pan v) s1):=by
 unfold wC at h
 split at h
 · rw [JN] at h
   split at h
   · rename_i hw
     split at h
     · rename_i h1
       cases h
       exact .opCall hw h1 (.ext hc.1)
     · rename_i h1
       cases h
       exact .opPan hw h1
     · cases h
   · cases h
 · rw [JN] at h
   split at h
   · rename_i hw
     split at h
     · rename_i h1
       cases h
       exact .opCall hw h1 (.ext (hc.1 s hc.2.1.1 hc.2.1.2))
     · cases h
   · cases h
 · cases h
theorem pU {l:List Oper} {k:Nat} (hk:l=ops.toList.drop k) {hs hs':List Hn} {fr fr':List AV} {s s':AS} {e:AX} {cd:List Cd} (h:j6 P G ops l hs fr s=some (e,hs',cd,fr',s')) (hc:N7 P G cd):J P G (XS P G) H0 (.ops ops (List.range' k l.length) fr s e fr' s'):=by
 induction l generalizing k hs fr s cd with
 | nil=>simp only [j6] at h;cases h;exact .opsNil
 | cons o l ih =>
   obtain ⟨k1,k2⟩:=drop_cons hk
   simp only [j6] at h
   split at h
   · rename_i v s1 hs1 cd1 h1
     cases h
     rw [List.length_cons,List.range'_succ]
     exact .opsPan (by rw [← Array.getElem?_toList];exact k1) (qS h1 hc)
   · split at h
     · rename_i v s1 hs1 cd1 h1
       unfold UC at h
       split at h
       · rename_i e2 hs2 cd2 fr2 s2 h2
         cases h
         obtain ⟨c1,c2⟩:=hc.R7
         rw [List.length_cons,List.range'_succ]
         exact .opsCons (by rw [← Array.getElem?_toList];exact k1) (Ph h1 c1) (ih k2 h2 c2)
       · cases h
     · cases h
theorem qK {l:List Oper} {q:Nat} (hst:MO l=true) {hs hs':List Hn} {fr fr':List AV} {s s':AS} {cd:List Cd} (h:WI P G ops l hs fr s=some (hs',cd,fr',s')) (hc:N7 P G cd):s'=s∧∃ t,LH P G (XS P G) H0 ops q l fr s t fr' s∧∀ x∈t,x.2.1=s:=by
 induction l generalizing hs fr cd s with
 | nil=>simp only [WI] at h;cases h;exact ⟨rfl,[],.nil,fun x hx=>by cases hx⟩
 | cons o l ih =>
   simp only [MO] at hst
   split at hst
   · rename_i hso
     simp only [WI] at h
     split at h
     · rename_i v s1 hs1 cd1 h1
       unfold tO at h
       split at h
       · rename_i hs2 cd2 fr2 s2 h2
         cases h
         obtain ⟨c1,c2⟩:=hc.R7
         obtain ⟨h1,hA⟩:=Om h1
         have hj:=Ph h1 c1
         have hna:Bs o.op=false:=by
           cases ha:Bs o.op with
           | false=>rfl
           | true=>obtain ⟨e,he⟩:=Hg ha;rw [he] at hso;simp [steady,quiet] at hso
         have hs1:s1=s:=by
           cases hq:quiet o.op with
           | true=>exact (GV hq hj).1
           | false =>
             unfold steady at hso
             rw [hq] at hso
             simp only at hso
             split at hso
             · rename_i cl hop
               split at hso
               · rename_i f hcl
                 unfold XK at h1
                 split at h1
                 · unfold jZ at h1
                   rw [hop] at h1
                   simp only [hcl] at h1
                   unfold UM at h1
                   split at h1
                   · split at h1
                     · cases h1;rfl
                     · cases h1
                   · have:=hA (by rw [hop];simp [K0,hcl])
                     simp [dM] at this
                   · have:=hA (by rw [hop];simp [K0,hcl])
                     simp [dM] at this
                   · have:=hA (by rw [hop];simp [K0,hcl])
                     simp [dM] at this
                   · cases h1
                 · cases h1;rfl
               · cases hso
             · cases hso
         subst hs1
         obtain ⟨e,t,ht,hall⟩:=ih hst h2 c2
         subst e
         exact ⟨rfl,_,.cons hna hj ht,fun x hx=>by
           rcases List.mem_cons.1 hx with rfl | hx
           · rfl
           · exact hall x hx⟩
       · cases h
     · cases h
   · cases hst
theorem QK {l:List Oper} (hst:MO l=true) {i:Nat} {o:Oper} (ho:l[i]?=some o):steady o.op=true:=by
 induction l generalizing i with
 | nil=>simp at ho
 | cons x l ih =>
   simp only [MO] at hst
   split at hst
   · rename_i hso
     cases i with
     | zero=>simp at ho;subst ho;exact hso
     | succ i=>exact ih hst (by simpa using ho)
   · cases hst
theorem Y3 {X:OY} {H:Mn} {id:Nat} {fr fr':List AV} {s:AS} {t:List (List AV×AS×AV)} (hord:Kw ops=true) (hst:MO ops.toList=true) (h:LH P G X H ops s.nx ops.toList fr s t fr' s) (hall:∀ x∈t,x.2.1=s):J P G X H (.code (.region id ops true) fr s .normal fr' s):=by
 have hlen:t.length=ops.size:=by rw [h.len,Array.length_toList]
 obtain ⟨h0,hat⟩:=h.at
 have hsa:∀ i,C9 t s i=s:=by
   intro i
   unfold C9
   split
   · rename_i x hx;exact hall x (List.mem_of_getElem? hx)
   · rfl
 have hdst:∀ i o,ops[i]?=some o→Ci ops i=o.dst:=fun i o ho=>by unfold Ci;rw [ho];rfl
 obtain ⟨hfin,hfrs⟩:=h.S6 (Ci ops) (GL t) fr 0 rfl (fun i o ho=>by rw [Nat.zero_add];exact hdst i o (by rw [← Array.getElem?_toList];exact ho)) (fun i=>.inl (by rw [Nat.zero_add]))
 rw [Nat.zero_add,Array.length_toList] at hfin
 have hna:∀ (i:Nat) (o:Oper),ops[i]?=some o→Bs o.op=false:=by
   intro i o ho
   have:=QK hst (Bv ho)
   cases ha:Bs o.op with
   | false=>rfl
   | true=>obtain ⟨e,he⟩:=Hg ha;rw [he] at this;simp [steady,quiet] at this
 have hj:∀ i o,ops[i]?=some o→J P G X H (.op ops o (Iv fr (Ci ops) (GL t) (fun _=>true) i) s (.ret (GL t i)) s):=by
   intro i o ho
   obtain ⟨fi,h1,h2⟩:=hat i o (Bv ho)
   have:=hfrs i _ h1
   simp only [Nat.zero_add] at this
   rcases h2 with ⟨_,h2⟩ | ⟨h2,_⟩
   · rw [← this]
     rw [hsa,hsa] at h2
     exact h2
   · rw [hna i o ho] at h2;cases h2
 have key:=J.draw (P:=P) (G:=G) (X:=X) (H:=H) (id:=id) (f0:=fr) (s0:=s) [] (GL t) (fun _=>s) rfl hord (fun i o ho _=>hj i o ho) (fun i o ho hq=>⟨rfl,by
   obtain ⟨_,h2⟩:=GV hq (hj i o ho)
   rcases h2 with h2 | ⟨hw,h2⟩
   · exact .inl h2
   · exact .inr ⟨hw,fun k _ _=>h2⟩⟩) (fun i o e ho he=>by have:=hna i o ho;rw [he] at this;cases this)
 rw [← hfin] at key
 exact key
theorem VR {ops:Array Oper} {id:Nat} {d:Bool} {hs hs':List Hn} {fr fr':List AV} {s s':AS} {e:AX} {cd:List Cd} (h:kP P G ops d hs fr s=some (e,hs',cd,fr',s')) (hc:N7 P G cd):J P G (XS P G) H0 (.code (.region id ops d) fr s e fr' s'):=by
 unfold kP at h
 cases d with
 | false =>
   simp only at h
   have:=pU (ops:=ops) (k:=0) (by simp) h hc
   refine .region ?_
   rw [Array.length_toList] at this
   rw [List.range_eq_range']
   exact this
 | true =>
   simp only at h
   split at h
   · rename_i hord
     unfold sP at h
     split at h
     · unfold kM at h
       split at h
       · rename_i hcs
         split at h
         · rename_i hl
           split at h
           · rename_i heq
             cases h
             exact bA hord hcs hl heq hc
           · cases h
         · cases h
       · cases h
     · unfold sW at h
       split at h
       · rename_i heq
         split at h
         · rename_i hrd
           cases h
           exact lB hord heq hrd hc
         · cases h
       · cases h
     split at h
     · rename_i hst
       unfold abE at h
       split at h
       · rename_i h1
         cases h
         obtain ⟨e,t,ht,hall⟩:=qK (q:=s.nx) hst h1 hc
         subst e
         exact Y3 hord hst ht hall
       · cases h
     · unfold ab2 at h
       split at h
       · rename_i r hr
         split at h
         · rename_i hs1 cd1 t fr1 s1 htr
           split at h
           · rename_i hi
             split at h
             · rename_i hst1
               cases h
               exact jO hord hr htr hc hi hst1
             · cases h
           · cases h
         · cases h
       · cases h
   · cases h
theorem iP (c:Code) {hs hs':List Hn} {fr fr':List AV} {s s':AS} {e:AX} {cd:List Cd} (h:Ky P G c hs fr s=some (e,hs',cd,fr',s')) (hc:N7 P G cd):J P G (XS P G) H0 (.code c fr s e fr' s'):=by
 induction c generalizing hs hs' fr fr' s s' e cd with
 | skip=>simp only [Ky] at h;cases h;exact .skip
 | exit id=>simp only [Ky] at h;cases h;exact .exit
 | ret=>simp only [Ky] at h;cases h;exact .ret
 | seq x y ihx ihy =>
   simp only [Ky] at h
   cases hx:Ky P G x hs fr s with
   | none=>rw [hx] at h;cases h
   | some r =>
     obtain ⟨e1,hs1,cd1,fr1,s1⟩:=r
     rw [hx] at h
     cases e1 with
     | normal =>
       simp only at h
       unfold UC at h
       split at h
       · rename_i e2 hs2 cd2 fr2 s2 h2
         cases h
         obtain ⟨c1,c2⟩:=hc.R7
         exact .seq (ihx hx c1) (ihy h2 c2)
       · cases h
     | exit id=>simp only at h;cases h;exact .seqX (ihx hx hc) (by simp)
     | ret=>simp only at h;cases h;exact .seqX (ihx hx hc) (by simp)
     | pan v=>simp only at h;cases h;exact .seqX (ihx hx hc) (by simp)
 | cond q x y ihx ihy =>
   simp only [Ky,BY] at h
   split at h
   · rename_i hq;exact .cond hq (ihx h hc)
   · rename_i hq;exact .cond hq (ihy h hc)
   · cases h
 | block id c ih =>
   simp only [Ky] at h
   split at h
   · rename_i h1;cases h;exact .block (ih h1 hc)
   · cases h
 | region id ops d =>
   simp only [Ky] at h
   split at h
   · split at h
     · rename_i hz
       exact .weak (fun cx w vs h1 h2=>fQ hz cx w vs h1 h2) (VR h hc)
     · cases h
   · split at h
     · rename_i b0 hb
       unfold UC at h
       split at h
       · rename_i h1
         cases h
         obtain ⟨c1,c2⟩:=hc.R7
         refine .weak (fun cx w vs hs hf=>?_) (VR h1 c2)
         have hbb:b0=_:=Option.some.inj (List.cons.inj c1.1.1).1
         subst hbb
         obtain ⟨x,st⟩:=hs.tok
         exact ⟨_,x,st.pE hb (fun o ho=>c1.2.1 _ _ _ (by simp [hs.rlen]) ho),hf.mono x⟩
       · cases h
     · cases h
   · exact VR h hc
 | _=>simp only [Ky] at h;cases h
def Od:Code→Bool
 | .loop _=>true
 | .seq x y=>Od x||Od y
 | .cond _ x y=>Od x||Od y
 | .block _ c=>Od c
 | _=>false
end
end AI
namespace AI
open Go Go.RowKit
structure PC (P:Program) (G:A8) where
 hn:Hn
 cd:List Cd
 ok:N7 P G cd
def pHs {P:Program} {G:A8}:List (PC P G)→List Hn
 | []=>[]
 | p::l=>p.hn::pHs l
def dZ {P:Program} {G:A8}:List (PC P G)→List Cd
 | []=>[]
 | p::l=>p.cd++dZ l
theorem N7.join {P:Program} {G:A8} {l m:List Cd} (h:N7 P G l) (k:N7 P G m):N7 P G (l++m):=by
 induction l with
 | nil=>exact k
 | cons c l ih=>exact ⟨h.1,ih h.2⟩
theorem Nv {P:Program} {G:A8} (l:List (PC P G)):N7 P G (dZ l):=by
 induction l with
 | nil=>trivial
 | cons p l ih=>exact p.ok.join ih
inductive KI where
 | code (c:Code)
 | endb (id:Nat)
def CE (P:Program) (G:A8):List KI→(AX→List AV→AS→Prop)→AX→List AV→AS→Prop
 | [],Q=>Q
 | .code k::ks,Q=>sX P G (XS P G) H0 k (CE P G ks Q)
 | .endb id::ks,Q=>CM id (CE P G ks Q)
inductive Sq where
 | at (id:Nat) (c:Code) (ks:List KI)
 | fin (e:AX)
abbrev HR:=Option (Sq×List Hn×List Cd×List AV×AS)
def jF (cd:List Cd):HR→HR
 | some (c,hs,cd',fr,s)=>some (c,hs,cd++cd',fr,s)
 | none=>none
def Oq (r:Code→List KI→List Hn→List AV→AS→HR):List KI→AX→List Hn→List AV→AS→HR
 | [],e,hs,fr,s=>some (.fin e,hs,[],fr,s)
 | .code k::ks,.normal,hs,fr,s=>r k ks hs fr s
 | .code _::ks,e,hs,fr,s=>Oq r ks e hs fr s
 | .endb id::ks,.exit id',hs,fr,s=>(match Nat.beq id' id with
   | true=>Oq r ks .normal hs fr s
   | false=>Oq r ks (.exit id') hs fr s)
 | .endb _::ks,e,hs,fr,s=>Oq r ks e hs fr s
def TP (P:Program) (G:A8):Nat→Code→List KI→List Hn→List AV→AS→HR
 | 0,_,_,_,_,_=>none
 | n+1,c,ks,hs,fr,s=>(match Od c with
   | false=>(match Ky P G c hs fr s with
     | some (e,hs1,cd,fr1,s1)=>jF cd (Oq (TP P G n) ks e hs1 fr1 s1)
     | none=>none)
   | true=>(match c with
     | .seq x y=>TP P G n x (.code y::ks) hs fr s
     | .block id (.loop c)=>some (.at id c ks,hs,[],fr,s)
     | .block id c=>TP P G n c (.endb id::ks) hs fr s
     | .cond q x y=>(match AZ G fr q with
       | some (.sc (.bool true))=>TP P G n x ks hs fr s
       | some (.sc (.bool false))=>TP P G n y ks hs fr s
       | _=>none)
     | _=>none))
section
variable {P:Program} {G:A8}
def SqQ (P:Program) (G:A8) (Q:AX→List AV→AS→Prop) (fr:List AV) (s:AS):Sq→Prop
 | .at id c ks=>WL P G (XS P G) H0 c fr s (CM id (CE P G ks Q))
 | .fin e=>Q e fr s
theorem KW {k:Code} {ks:List KI} {Q:AX→List AV→AS→Prop} {e:AX} {fr:List AV} {s:AS} (he:e≠.normal) (h:CE P G ks Q e fr s):CE P G (.code k::ks) Q e fr s:=by
 cases e with
 | normal=>exact absurd rfl he
 | exit id=>exact h
 | ret=>exact h
 | pan v=>exact h
theorem Zu {r:Code→List KI→List Hn→List AV→AS→HR} {Q:AX→List AV→AS→Prop}
   (hr:∀ (c:Code) (ks:List KI) {sp:Sq} {hs hs':List Hn} {fr fr':List AV} {s s':AS} {cd:List Cd},r c ks hs fr s=some (sp,hs',cd,fr',s')→N7 P G cd→SqQ P G Q fr' s' sp→W P G (XS P G) H0 c fr s (CE P G ks Q)) :
   ∀ (ks:List KI) (e:AX) {sp:Sq} {hs hs':List Hn} {fr fr':List AV} {s s':AS} {cd:List Cd},Oq r ks e hs fr s=some (sp,hs',cd,fr',s')→N7 P G cd→SqQ P G Q fr' s' sp→CE P G ks Q e fr s:=by
 intro ks
 induction ks with
 | nil=>intro e sp hs hs' fr fr' s s' cd h hc hk;simp only [Oq] at h;cases h;exact hk
 | cons k ks ih =>
   intro e sp hs hs' fr fr' s s' cd h hc hk
   cases k with
   | code c =>
     cases e with
     | normal=>simp only [Oq] at h;exact hr c ks h hc hk
     | exit id=>simp only [Oq] at h;exact KW (by simp) (ih _ h hc hk)
     | ret=>simp only [Oq] at h;exact KW (by simp) (ih _ h hc hk)
     | pan v=>simp only [Oq] at h;exact KW (by simp) (ih _ h hc hk)
   | endb id =>
     show CE P G ks Q (EH id e) fr s
     cases e with
     | normal=>simp only [Oq] at h;exact ih _ h hc hk
     | ret=>simp only [Oq] at h;exact ih _ h hc hk
     | pan v=>simp only [Oq] at h;exact ih _ h hc hk
     | exit id' =>
       simp only [Oq] at h
       split at h
       · rename_i hb
         have:=beq_true hb
         subst this
         have e1:EH id' (.exit id')=.normal:=by simp [EH]
         rw [e1]
         exact ih _ h hc hk
       · rename_i hb
         have:=beq_false hb
         have e1:EH id (.exit id')=.exit id':=by simp [EH,this]
         rw [e1]
         exact ih _ h hc hk
theorem Zw {Q:AX→List AV→AS→Prop}:∀ (n:Nat) (c:Code) (ks:List KI) {sp:Sq} {hs hs':List Hn} {fr fr':List AV} {s s':AS} {cd:List Cd},TP P G n c ks hs fr s=some (sp,hs',cd,fr',s')→N7 P G cd→SqQ P G Q fr' s' sp→W P G (XS P G) H0 c fr s (CE P G ks Q):=by
 intro n
 induction n with
 | zero=>intro c ks sp hs hs' fr fr' s s' cd h;simp only [TP] at h;cases h
 | succ n ih =>
   intro c ks sp hs hs' fr fr' s s' cd h hc hk
   simp only [TP] at h
   split at h
   · split at h
     · rename_i e hs1 cd1 fr1 s1 h1
       unfold jF at h
       split at h
       · rename_i h2
         cases h
         obtain ⟨c1,c2⟩:=hc.R7
         exact ⟨_,_,_,iP c h1 c1,Zu ih ks e h2 c2 hk⟩
       · cases h
     · cases h
   · split at h
     · exact abI (ih _ _ h hc hk)
     · cases h
       exact Z4 (xY hk)
     · exact Z4 (ih _ _ h hc hk)
     · rw [BY] at h
       split at h
       · rename_i hq;exact oH hq (ih _ _ h hc hk)
       · rename_i hq;exact qB hq (ih _ _ h hc hk)
       · cases h
     · cases h
end
end AI
namespace AI
open Go Go.RowKit
def sub:Code→List Nat→Code
 | c,[]=>c
 | .seq x _,0::l=>sub x l
 | .seq _ y,_::l=>sub y l
 | .cond _ x _,0::l=>sub x l
 | .cond _ _ y,_::l=>sub y l
 | .block _ c,_::l=>sub c l
 | .loop c,_::l=>sub c l
 | c,_=>c
def AY (fn:Func):Code:=fn.body.getD .skip
def obv (n:Nat):AV→Bool
 | .sc _=>true
 | .any=>true
 | .ptr id _=>Nat.blt id n
 | .mp id=>Nat.blt id n
 | .msl id _ _=>Nat.blt id n
 | _=>false
theorem jY {n m:Nat} {a:AV} (h:obv n a=true):Fits n m a a:=by
 refine .under ?_
 cases a<;>simp only [obv] at h<;>first | rfl | (cases h;done) | exact decide_eq_true (Nat.le_of_ble_eq_true h)
structure FP (n m:Nat) where
 a:AV
 b:AV
 h:Fits n m a b
structure FB (n m:Nat) where
 a:A5
 b:A5
 h:Mh n m a b
def XI {n m:Nat}:List (FP n m)→List AV
 | []=>[]
 | p::l=>p.a::XI l
def Va {n m:Nat}:List (FP n m)→List AV
 | []=>[]
 | p::l=>p.b::Va l
def fbA {n m:Nat}:List (FB n m)→List A5
 | []=>[]
 | p::l=>p.a::fbA l
def tY {n m:Nat}:List (FB n m)→List A5
 | []=>[]
 | p::l=>p.b::tY l
abbrev MR:=Option (List AV×List AV)
def Uw (b:AV):MR→MR
 | some (l,as)=>some (b::l,as)
 | none=>none
def eJ (a b:AV):MR→MR
 | some (l,as)=>some (b::l,a::as)
 | none=>none
def fO (r:List AV→MR) (n:Nat) (a:AV) (bs:List AV):MR:=match obv n a with
 | true=>Uw a (r bs)
 | false=>none
def mU (r:List AV→MR) (a:AV):List AV→MR
 | b::bs=>eJ a b (r bs)
 | []=>none
def UZ (r:List AV→MR) (a:AV) (bs:List AV):MR:=match Pu a with
 | true=>Uw .any (r bs)
 | false=>none
def Ud (n:Nat):List AV→Nat→List Nat→List AV→MR
 | [],_,_,[]=>some ([],[])
 | [],_,_,_::_=>none
 | a::l,i,[],bs=>UZ (Ud n l (i+2) []) a bs
 | a::l,i,t::ts,bs=>(match Nat.beq t i with
   | true=>fO (Ud n l (i+2) ts) n a bs
   | false=>(match Nat.beq t (i+1) with
     | true=>mU (Ud n l (i+2) ts) a bs
     | false=>UZ (Ud n l (i+2) (t::ts)) a bs))
section
variable {n m:Nat} {r:List AV→MR} {l:List AV} (hr:∀ (fps:List (FP n m)) l2,r (Va fps)=some (l2,XI fps)→H3 n m l l2) {a:AV} {fps:List (FP n m)} {l2:List AV}
include hr
theorem jC (h:fO r n a (Va fps)=some (l2,XI fps)):H3 n m (a::l) l2:=by
 unfold fO at h
 split at h
 · rename_i ho
   unfold Uw at h
   split at h
   · rename_i l3 as h1
     cases h
     exact .cons (jY ho) (hr fps _ h1)
   · cases h
 · cases h
theorem Z8 (h:mU r a (Va fps)=some (l2,XI fps)):H3 n m (a::l) l2:=by
 cases fps with
 | nil=>cases h
 | cons p fps =>
   simp only [Va,mU] at h
   unfold eJ at h
   split at h
   · rename_i l3 as h1
     simp only [XI,Option.some.injEq,Prod.mk.injEq,List.cons.injEq] at h
     obtain ⟨rfl,rfl,rfl⟩:=h
     exact .cons p.h (hr fps _ h1)
   · cases h
theorem Pw (h:UZ r a (Va fps)=some (l2,XI fps)):H3 n m (a::l) l2:=by
 unfold UZ at h
 split at h
 · rename_i hd
   unfold Uw at h
   split at h
   · rename_i l3 as h1
     cases h
     exact .cons (.drop hd) (hr fps _ h1)
   · cases h
 · cases h
end
theorem n6 {n m:Nat}:∀ {l:List AV} {i:Nat} {ts:List Nat} {fps:List (FP n m)} {l2:List AV},Ud n l i ts (Va fps)=some (l2,XI fps)→H3 n m l l2:=by
 intro l
 induction l with
 | nil =>
   intro i ts fps l2 h
   cases fps with
   | nil=>simp only [Va,Ud] at h;cases h;exact .nil
   | cons p fps=>simp only [Va,Ud] at h;cases h
 | cons a l ih =>
   intro i ts fps l2 h
   cases ts with
   | nil=>simp only [Ud] at h;exact Pw (fun fps l2 h=>ih h) h
   | cons t ts =>
     simp only [Ud] at h
     split at h
     · exact jC (fun fps l2 h=>ih h) h
     · split at h
       · exact Z8 (fun fps l2 h=>ih h) h
       · exact Pw (fun fps l2 h=>ih h) h
abbrev BR:=Option (List (Nat×A5)×List A5)
def sK (id:Nat) (a b:A5):BR→BR
 | some (l,as)=>some ((id,b)::l,a::as)
 | none=>none
def YQ:List (Nat×A5)→List A5→BR
 | [],[]=>some ([],[])
 | e::l,b::bs=>sK e.1 e.2 b (YQ l bs)
 | _,_=>none
theorem n4 {n m:Nat}:∀ {l:List (Nat×A5)} {fbs:List (FB n m)} {l2:List (Nat×A5)},YQ l (tY fbs)=some (l2,fbA fbs)→(∀ k,Hm l k→Hm l2 k)∧∀ id b,look id l2=some b→∃ b',look id l=some b'∧Mh n m b' b:=by
 intro l
 induction l with
 | nil =>
   intro fbs l2 h
   cases fbs with
   | nil=>simp only [tY,YQ] at h;cases h;exact ⟨fun _ _=>trivial,fun id b h=>by cases h⟩
   | cons p fbs=>simp only [tY,YQ] at h;cases h
 | cons e l ih =>
   intro fbs l2 h
   cases fbs with
   | nil=>simp only [tY,YQ] at h;cases h
   | cons p fbs =>
     simp only [tY,YQ] at h
     unfold sK at h
     split at h
     · rename_i l3 as h1
       simp only [fbA,Option.some.injEq,Prod.mk.injEq,List.cons.injEq] at h
       obtain ⟨rfl,h2,rfl⟩:=h
       obtain ⟨hd,hl⟩:=ih h1
       refine ⟨fun k hk=>⟨hk.1,hd _ hk.2⟩,fun id b hb=>?_⟩
       simp only [look] at hb ⊢
       split at hb
       · cases hb;exact ⟨e.2,rfl,by rw [h2];exact p.h⟩
       · exact hl id b hb
     · cases h
def Ri (m:Nat):List (Nat×Nat)→List (Nat×Nat)
 | []=>[]
 | x::l=>match Nat.blt x.1 m with
   | true=>x::Ri m l
   | false=>Ri m l
theorem Ws {m r n:Nat} {l:List (Nat×Nat)} (h:C8 r (Ri m l)=some n):C8 r l=some n∧r < m:=by
 induction l with
 | nil=>cases h
 | cons x l ih =>
   simp only [Ri] at h
   split at h
   · rename_i hb
     simp only [C8] at h ⊢
     split at h
     · rename_i h1
       have:=beq_true h1
       subst this
       cases h
       exact ⟨rfl,Nat.le_of_ble_eq_true hb⟩
     · exact ih h
   · rename_i hb
     obtain ⟨h1,h2⟩:=ih h
     refine ⟨?_,h2⟩
     simp only [C8]
     split
     · rename_i h3
       have:=beq_true h3
       subst this
       rw [show Nat.blt x.1 m=true from Nat.ble_eq_true_of_le h2] at hb
       cases hb
     · exact h1
section
variable {P:Program} {G:A8}
def aO (G:A8) (s0:AS) (fr':List AV) (s':AS) (fr2:List AV) (s2:AS):Prop:=∀ (cx:Cx) (w:World) (c':Cx) (w':World) (vs:List Value),Ext cx w c' w'→St G cx w s0→St G c' w' s'→Cz c' w' fr' vs→∃ c2,Ext cx w c2 w'∧St G c2 w' s2∧Cz c2 w' fr2 vs
abbrev RR:=Option (List AV×AS×List AV×List A5)
def yX (live:List Nat) (n m:Nat) (fr':List AV) (s':AS) (bs:List AV) (cs:List A5):RR :=
 match Ud n fr' 0 live bs with
 | some (fr2,as)=>(match YQ (OQ n s'.h) cs with
   | some (h2,cas)=>some (fr2,⟨h2,n,Ri m s'.F,m⟩,as,cas)
   | none=>none)
 | none=>none
theorem W8 {l:List (Nat×A5)} {N n:Nat} (h:Hm l N):Hm (OQ n l) n:=by
 induction l generalizing N with
 | nil=>trivial
 | cons e l ih =>
   simp only [OQ]
   split
   · exact ih h.2
   · rename_i hb
     refine ⟨?_,h.2⟩
     have:¬ n≤e.1:=fun hle=>by rw [Nat.ble_eq_true_of_le hle] at hb;cases hb
     omega
def Qk (P:Program) (G:A8) (L:Code) (s0:AS) (Q:AX→List AV→AS→Prop):AX→List AV→AS→Prop
 | .normal,fr',s'=>∃ fr2 s2,aO G s0 fr' s' fr2 s2∧WL P G (XS P G) H0 L fr2 s2 Q
 | .exit id,fr',s'=>∃ fr2 s2,aO G s0 fr' s' fr2 s2∧Q (.exit id) fr2 s2
 | e,fr',s'=>Q e fr' s'
theorem SF {L:Code} {fr:List AV} {s:AS} {Q:AX→List AV→AS→Prop} (h:W P G (XS P G) H0 L fr s (Qk P G L s Q)):WL P G (XS P G) H0 L fr s Q:=by
 obtain ⟨e,fr',s',hj,h2⟩:=h
 cases e with
 | normal =>
   obtain ⟨fr2,s2,hf,e3,fr3,s3,h3,h4⟩:=h2
   exact ⟨e3,fr3,s3,.loopN (.scope hj (fun _ h=>by cases h) (fun cx w c' w' vs hx hs hs' hfr=>hf cx w c' w' vs hx hs hs' hfr)) h3,h4⟩
 | exit id =>
   obtain ⟨fr2,s2,hf,h4⟩:=h2
   exact ⟨_,_,_,.loopX (.scope hj (fun _ h=>by cases h) (fun cx w c' w' vs hx hs hs' hfr=>hf cx w c' w' vs hx hs hs' hfr)) (by simp),h4⟩
 | ret=>exact ⟨_,_,_,.loopX hj (by simp),h2⟩
 | pan v=>exact ⟨_,_,_,.loopX hj (by simp),h2⟩
def OE (P:Program) (fn:Func) (m:Nat) (Q:AX→List AV→AS→Prop) (v:AV) (s2:AS):Prop:=∀ fr s,Gl P s fn fr=some v→s.cut m=s2→Q .ret fr s
def Qb (m:Nat) (Q:AX→List AV→AS→Prop) (v:AV) (s2:AS):Prop:=∀ fr s,s.cut m=s2→Q (.pan v) fr s
theorem cL {ks:List KI} {Q:AX→List AV→AS→Prop} {fr:List AV} {s:AS} (h:Q .ret fr s):CE P G ks Q .ret fr s:=by
 induction ks with
 | nil=>exact h
 | cons k ks ih=>cases k<;>exact ih
theorem dL {ks:List KI} {Q:AX→List AV→AS→Prop} {fr:List AV} {s:AS} {v:AV} (h:Q (.pan v) fr s):CE P G ks Q (.pan v) fr s:=by
 induction ks with
 | nil=>exact h
 | cons k ks ih=>cases k<;>exact ih
theorem OE.body {fn:Func} {m:Nat} {Q:CR→AS→Prop} {v:AV} {s2:AS} (h:Q (.ret v) s2):OE P fn m (OH P fn m Q) v s2:=fun fr s h1 h2=>⟨v,h1,by rw [h2];exact h⟩
theorem Qb.body {fn:Func} {m:Nat} {Q:CR→AS→Prop} {v:AV} {s2:AS} (h:Q (.pan v) s2):Qb m (OH P fn m Q) v s2:=fun fr s h2=>by show Q (.pan v) (s.cut m);rw [h2];exact h
theorem OE.outer {fn:Func} {m id:Nat} {ks:List KI} {Q:AX→List AV→AS→Prop} {v:AV} {s2:AS} (h:OE P fn m Q v s2):OE P fn m (CM id (CE P G ks Q)) v s2:=fun fr s h1 h2=>cL (h fr s h1 h2)
theorem Qb.outer {m id:Nat} {ks:List KI} {Q:AX→List AV→AS→Prop} {v:AV} {s2:AS} (h:Qb m Q v s2):Qb m (CM id (CE P G ks Q)) v s2:=fun fr s h1=>dL (h fr s h1)
theorem OE.Em {fn:Func} {m:Nat} {L:Code} {s0:AS} {Q:AX→List AV→AS→Prop} {v:AV} {s2:AS} (h:OE P fn m Q v s2):OE P fn m (Qk P G L s0 Q) v s2:=h
theorem Qb.Em {m:Nat} {L:Code} {s0:AS} {Q:AX→List AV→AS→Prop} {v:AV} {s2:AS} (h:Qb m Q v s2):Qb m (Qk P G L s0 Q) v s2:=h
def Tz (P:Program) (G:A8) (_l:List (PC P G)) (Q:AX→List AV→AS→Prop) (r:HR) (X:Prop):Prop:=∀ sp cd fr' s',r=some (sp,[],cd,fr',s')→N7 P G cd→SqQ P G Q fr' s' sp→X
theorem Ag {c:Code} {fr:List AV} {s:AS} {Q:AX→List AV→AS→Prop} (n:Nat) (l:List (PC P G)):Tz P G l Q (TP P G n c [] (pHs l) fr s) (W P G (XS P G) H0 c fr s Q):=fun _ _ _ _ h hc hk=>Zw n c [] h hc hk
def Yh (a:AV):AV:=match Pu a with
 | true=>.any
 | false=>a
theorem c6 {a:AV} {c:Cx} {w:World} {v:Value} (hr:Rp c w a v):Rp c w (Yh a) v:=by
 unfold Yh
 split
 · rename_i h;exact .any (Pd hr h)
 · exact hr
inductive Lp (γ δ ρ:Type) where
 | nx (x:γ)
 | ex (x:δ)
 | rt (r:ρ)
section loops
variable {α γ δ ρ:Type}
def Im (k:γ→Option (δ⊕ρ)):Lp γ δ ρ→Option (δ⊕ρ)
 | .nx x=>k x
 | .ex d=>some (.inl d)
 | .rt r=>some (.inr r)
def AL (body:Nat→α→γ→Option (Lp γ δ ρ)) (done:γ→δ):List α→Nat→γ→Option (δ⊕ρ)
 | [],_,x=>some (.inl (done x))
 | y::l,i,x=>(body i y x).bind (Im (AL body done l (i+1)))
def Vz (body:Nat→γ→Option (Lp γ δ ρ)) (done:γ→δ):Nat→Nat→γ→Option (δ⊕ρ)
 | 0,_,x=>some (.inl (done x))
 | d+1,i,x=>(body i x).bind (Im (Vz body done d (i+1)))
def Nx (body:γ→Option (Lp γ δ ρ)):Nat→γ→Option (δ⊕ρ)
 | 0,_=>none
 | n+1,x=>(body x).bind (Im (Nx body n))
def GW {β:Type} (n:Nat) (x:Option β):Option β:=if n≤9223372036854775807 then x else none
theorem adm {β:Type} {n:Nat} {x:Option β} {r:β} (h:GW n x=some r):n≤9223372036854775807∧x=some r:=by
 unfold GW at h
 split at h
 · rename_i h1;exact ⟨h1,h⟩
 · cases h
theorem adL {β:Type} {b:Bool} {t f:Option β} {r:β} (h:cond b t f=some r):(b=true∧t=some r)∨(b=false∧f=some r):=by
 cases b
 · exact .inr ⟨rfl,h⟩
 · exact .inl ⟨rfl,h⟩
theorem Vr {β κ:Type} {m:Option κ} {k:κ→Option β} {r:β} (h:m.bind k=some r):∃ y,m=some y∧k y=some r:=by
 cases m with
 | none=>cases h
 | some y=>exact ⟨y,rfl,h⟩
def LQ (Qx:δ→Prop) (Qr:ρ→Prop):δ⊕ρ→Prop
 | .inl x=>Qx x
 | .inr r=>Qr r
def RQ (Qn:γ→Prop) (Qx:δ→Prop) (Qr:ρ→Prop):Lp γ δ ρ→Prop
 | .nx x=>Qn x
 | .ex x=>Qx x
 | .rt r=>Qr r
theorem rG {J:Type} {L:Code} {Q:AX→List AV→AS→Prop} {body:Nat→α→γ→Option (Lp γ δ ρ)} {done:γ→δ} (l:List α) (F:Nat→γ→J→List AV) (S:Nat→γ→J→AS) (Ok:J→Prop) (Qx:δ→Prop) (Qr:ρ→Prop)
   (hz:∀ i x j,Ok j→l.length≤i→Qx (done x)→WL P G (XS P G) H0 L (F i x j) (S i x j) Q)
   (hs:∀ i y x j r,Ok j→l[i]?=some y→i < l.length→body i y x=some r→RQ (fun x'=>∀ j',Ok j'→WL P G (XS P G) H0 L (F (i+1) x' j') (S (i+1) x' j') Q) Qx Qr r→WL P G (XS P G) H0 L (F i x j) (S i x j) Q) :
   ∀ {x:γ} {res:δ⊕ρ} (i0:Nat),AL body done (l.drop i0) i0 x=some res→LQ Qx Qr res→∀ j,Ok j→WL P G (XS P G) H0 L (F i0 x j) (S i0 x j) Q:=by
 have key:∀ (k:List α) (i:Nat) (x:γ) (res:δ⊕ρ),l.drop i=k→AL body done k i x=some res→LQ Qx Qr res→∀ j,Ok j→WL P G (XS P G) H0 L (F i x j) (S i x j) Q:=by
   intro k
   induction k with
   | nil =>
     intro i x res hd h hq j hj
     simp only [AL,Option.some.injEq] at h
     subst h
     exact hz i x j hj (List.drop_eq_nil_iff.1 hd) hq
   | cons y k ih =>
     intro i x res hd h hq j hj
     have hi:i < l.length:=by
       rcases Nat.lt_or_ge i l.length with h1 | h1
       · exact h1
       · rw [List.drop_eq_nil_of_le h1] at hd;cases hd
     have hy:l[i]?=some y:=by rw [← List.head?_drop,hd];rfl
     have hd2:l.drop (i+1)=k:=by rw [← List.tail_drop,hd];rfl
     obtain ⟨r,hb,h⟩:=Vr h
     refine hs i y x j r hj hy hi hb ?_
     cases r with
     | nx x'=>exact fun j' hj'=>ih (i+1) x' res hd2 h hq j' hj'
     | ex d=>simp only [Im,Option.some.injEq] at h;subst h;exact hq
     | rt v=>simp only [Im,Option.some.injEq] at h;subst h;exact hq
 intro x res i0 h hq j hj
 exact key _ i0 x res rfl h hq j hj
theorem vS {J:Type} {L:Code} {Q:AX→List AV→AS→Prop} {body:Nat→γ→Option (Lp γ δ ρ)} {done:γ→δ} (n:Nat) (F:Nat→γ→J→List AV) (S:Nat→γ→J→AS) (Ok:J→Prop) (Qx:δ→Prop) (Qr:ρ→Prop)
   (hz:∀ x j,Ok j→Qx (done x)→WL P G (XS P G) H0 L (F n x j) (S n x j) Q)
   (hs:∀ i x j r,Ok j→i < n→body i x=some r→RQ (fun x'=>∀ j',Ok j'→WL P G (XS P G) H0 L (F (i+1) x' j') (S (i+1) x' j') Q) Qx Qr r→WL P G (XS P G) H0 L (F i x j) (S i x j) Q) :
   ∀ {x:γ} {res:δ⊕ρ},Vz body done n 0 x=some res→LQ Qx Qr res→∀ j,Ok j→WL P G (XS P G) H0 L (F 0 x j) (S 0 x j) Q:=by
 have key:∀ (d i:Nat) (x:γ) (res:δ⊕ρ),i+d=n→Vz body done d i x=some res→LQ Qx Qr res→∀ j,Ok j→WL P G (XS P G) H0 L (F i x j) (S i x j) Q:=by
   intro d
   induction d with
   | zero =>
     intro i x res hl h hq j hj
     simp only [Vz,Option.some.injEq] at h
     subst h
     have:i=n:=by simpa using hl
     subst this
     exact hz x j hj hq
   | succ d ih =>
     intro i x res hl h hq j hj
     obtain ⟨r,hb,h⟩:=Vr h
     refine hs i x j r hj (by omega) hb ?_
     cases r with
     | nx x'=>exact fun j' hj'=>ih (i+1) x' res (by omega) h hq j' hj'
     | ex d=>simp only [Im,Option.some.injEq] at h;subst h;exact hq
     | rt v=>simp only [Im,Option.some.injEq] at h;subst h;exact hq
 intro x res h hq j hj
 exact key n 0 x res (by simp) h hq j hj
theorem m6 {J:Type} {L:Code} {Q:AX→List AV→AS→Prop} {body:γ→Option (Lp γ δ ρ)} (F:γ→J→List AV) (S:γ→J→AS) (Ok:J→Prop) (Qx:δ→Prop) (Qr:ρ→Prop)
   (hs:∀ x j r,Ok j→body x=some r→RQ (fun x'=>∀ j',Ok j'→WL P G (XS P G) H0 L (F x' j') (S x' j') Q) Qx Qr r→WL P G (XS P G) H0 L (F x j) (S x j) Q) :
   ∀ (n:Nat) {x:γ} {res:δ⊕ρ},Nx body n x=some res→LQ Qx Qr res→∀ j,Ok j→WL P G (XS P G) H0 L (F x j) (S x j) Q:=by
 intro n
 induction n with
 | zero=>intro x res h;cases h
 | succ n ih =>
   intro x res h hq j hj
   obtain ⟨r,hb,h⟩:=Vr h
   refine hs x j r hj hb ?_
   cases r with
   | nx x'=>exact fun j' hj'=>ih h hq j' hj'
   | ex d=>simp only [Im,Option.some.injEq] at h;subst h;exact hq
   | rt v=>simp only [Im,Option.some.injEq] at h;subst h;exact hq
noncomputable def YH (body:γ→Option (Lp γ δ ρ)) (x:γ):Option (δ⊕ρ):=open Classical in if h:∃ n r,Nx body n x=some r then some (Classical.choose (Classical.choose_spec h)) else none
theorem rZ {body:γ→Option (Lp γ δ ρ)} {x:γ} {r:δ⊕ρ} (h:YH body x=some r):∃ n,Nx body n x=some r:=by
 unfold YH at h
 split at h
 · rename_i hx
   have:=Classical.choose_spec (Classical.choose_spec hx)
   rw [Option.some.inj h] at this
   exact ⟨_,this⟩
 · cases h
theorem SN {body:γ→Option (Lp γ δ ρ)}:∀ {n m:Nat} {x:γ} {r:δ⊕ρ},Nx body n x=some r→n≤m→Nx body m x=some r:=by
 intro n
 induction n with
 | zero=>intro m x r h;cases h
 | succ n ih =>
   intro m x r h hm
   cases m with
   | zero=>omega
   | succ m =>
     obtain ⟨a,ha,h⟩:=Vr h
     simp only [Nx,ha,Option.bind_some]
     cases a with
     | nx x'=>exact ih h (by omega)
     | ex d=>exact h
     | rt v=>exact h
theorem nJ {body:γ→Option (Lp γ δ ρ)} {n:Nat} {x:γ} {r:δ⊕ρ} (h:Nx body n x=some r):YH body x=some r:=by
 unfold YH
 have hx:∃ n r,Nx body n x=some r:=⟨n,r,h⟩
 rw [dif_pos hx]
 have h2:=Classical.choose_spec (Classical.choose_spec hx)
 have h3:=SN h (Nat.le_max_left n (Classical.choose hx))
 have h4:=SN h2 (Nat.le_max_right n (Classical.choose hx))
 rw [h3] at h4
 rw [Option.some.inj h4]
end loops
end
end AI
