/- Part of a proof: see the last text. -/
import Derived.Test.YtkfplcngmiljaaaGreatDoorUoe
set_option linter.unusedVariables false
set_option linter.unusedSimpArgs false
namespace AI
open Go Go.RowKit
section
variable {P:Program} {G:AB} {X:JK} {H:Hl}
def W (P:Program) (G:AB) (X:JK) (H:Hl) (c:Code) (fr:List AV) (s:AS) (Q:AX→List AV→AS→Prop):Prop:=∃ e fr' s',J P G X H (.code c fr s e fr' s')∧Q e fr' s'
def WL (P:Program) (G:AB) (X:JK) (H:Hl) (c:Code) (fr:List AV) (s:AS) (Q:AX→List AV→AS→Prop):Prop:=∃ e fr' s',J P G X H (.loop c fr s e fr' s')∧Q e fr' s'
def WC (P:Program) (G:AB) (X:JK) (H:Hl) (f:FuncId) (args:List AV) (s:AS) (Q:CR→AS→Prop):Prop:=∃ r s',J P G X H (.call f args s r s')∧Q r s'
def eI (P:Program) (G:AB) (X:JK) (H:Hl) (y:Code) (Q:AX→List AV→AS→Prop):AX→List AV→AS→Prop
 | .normal,fr,s=>W P G X H y fr s Q
 | e,fr,s=>Q e fr s
def B2 (id:Nat) (Q:AX→List AV→AS→Prop):AX→List AV→AS→Prop:=fun e fr s=>Q (Cu id e) fr s
def Kd (P:Program) (fn:Func) (n:Nat) (Q:CR→AS→Prop):AX→List AV→AS→Prop
 | .normal,fr,s=>∃ v,Cm P s fn fr=some v∧Q (.ret v) (s.cut n)
 | .ret,fr,s=>∃ v,Cm P s fn fr=some v∧Q (.ret v) (s.cut n)
 | .pan v,_,s=>Q (.pan v) (s.cut n)
 | _,_,_=>False
theorem W.mono {c:Code} {fr:List AV} {s:AS} {Q R:AX→List AV→AS→Prop} (h:W P G X H c fr s Q) (k:∀ e fr s,Q e fr s→R e fr s):W P G X H c fr s R:=by
 obtain ⟨e,fr',s',h1,h2⟩:=h
 exact ⟨e,fr',s',h1,k _ _ _ h2⟩
theorem WC.mono {f:FuncId} {args:List AV} {s:AS} {Q R:CR→AS→Prop} (h:WC P G X H f args s Q) (k:∀ r s,Q r s→R r s):WC P G X H f args s R:=by
 obtain ⟨r,s',h1,h2⟩:=h
 exact ⟨r,s',h1,k _ _ h2⟩
theorem pQ {x y:Code} {fr:List AV} {s:AS} {Q:AX→List AV→AS→Prop} (h:W P G X H x fr s (eI P G X H y Q)):W P G X H (.seq x y) fr s Q:=by
 obtain ⟨e,fr1,s1,h1,h2⟩:=h
 cases e with
 | normal =>
   obtain ⟨e2,fr2,s2,h3,h4⟩:=h2
   exact ⟨e2,fr2,s2,.seq h1 h3,h4⟩
 | exit id=>exact ⟨_,_,_,.seqX h1 (by simp),h2⟩
 | ret=>exact ⟨_,_,_,.seqX h1 (by simp),h2⟩
 | pan v=>exact ⟨_,_,_,.seqX h1 (by simp),h2⟩
theorem Z1 {q:Operand} {x y:Code} {fr:List AV} {s:AS} {Q:AX→List AV→AS→Prop} (hq:AE G fr q=some (.sc (.bool true))) (h:W P G X H x fr s Q):W P G X H (.cond q x y) fr s Q:=by
 obtain ⟨e,fr1,s1,h1,h2⟩:=h
 exact ⟨e,fr1,s1,.cond hq h1,h2⟩
theorem aR {q:Operand} {x y:Code} {fr:List AV} {s:AS} {Q:AX→List AV→AS→Prop} (hq:AE G fr q=some (.sc (.bool false))) (h:W P G X H y fr s Q):W P G X H (.cond q x y) fr s Q:=by
 obtain ⟨e,fr1,s1,h1,h2⟩:=h
 exact ⟨e,fr1,s1,.cond hq h1,h2⟩
theorem TM {id:Nat} {c:Code} {fr:List AV} {s:AS} {Q:AX→List AV→AS→Prop} (h:W P G X H c fr s (B2 id Q)):W P G X H (.block id c) fr s Q:=by
 obtain ⟨e,fr1,s1,h1,h2⟩:=h
 exact ⟨_,fr1,s1,.block h1,h2⟩
theorem jB {c:Code} {fr:List AV} {s:AS} {Q:AX→List AV→AS→Prop} (h:WL P G X H c fr s Q):W P G X H (.loop c) fr s Q:=by
 obtain ⟨e,fr1,s1,h1,h2⟩:=h
 exact ⟨_,fr1,s1,.loop h1,h2⟩
theorem drop_cons {α:Type} {o:α} {l m:List α} {k:Nat} (h:o::l=m.drop k):m[k]?=some o∧l=m.drop (k+1):=by
 constructor
 · have:=congrArg (fun x=>x[0]?) h
   simpa using this.symm
 · have:=congrArg List.tail h
   rw [List.tail_drop] at this
   exact this
theorem AZ {f:FuncId} {fn:Func} {c:Code} {args:List AV} {s:AS} {Q:CR→AS→Prop} (hf:P.funcs[f]?=some fn) (hb:fn.body=some c) (h:W P G X H c (args++List.replicate (fn.ntmps - args.length) (.sc undef)) s (Kd P fn s.nx Q)):WC P G X H f args s Q:=by
 obtain ⟨e,fr1,s1,h1,h2⟩:=h
 cases e with
 | normal=>obtain ⟨v,h3,h4⟩:=h2;exact ⟨_,_,.body hf hb h1 (.inl rfl) h3 (.inl rfl),h4⟩
 | ret=>obtain ⟨v,h3,h4⟩:=h2;exact ⟨_,_,.body hf hb h1 (.inr rfl) h3 (.inl rfl),h4⟩
 | pan v=>exact ⟨_,_,.bodyP hf hb h1,h2⟩
 | exit id=>exact h2.elim
end
end AI
namespace AI
open Go Go.RowKit
abbrev XS (P:Program) (G:AB):JK:=fun f args s r s'=>Sound P G (.call f args s r s')
def H0:Hl:=fun _ _=>none
theorem Lg {P:Program} {G:AB} (h:P.follows .mixedOrders=true):T9 P G (XS P G) H0:=⟨h,fun _ _ _ _ _ h=>h,fun _ _ _ _ _ h=>by cases h⟩
def Pure (P:Program) (G:AB) (f:FuncId) (args:List AV) (v:AV):Prop:=∀ s,Sound P G (.call f args s (.ret v) s)
def rows {α:Type} (f:α→List AV) (l:List α):List AV:=l.flatMap f
theorem Ji {α:Type} {f:α→List AV} {k:Nat} (hf:∀ x,(f x).length=k) {l:List α} {i:Nat} {x:α} (h:l[i]?=some x):(rows f l).drop (i*k)=f x++rows f (l.drop (i+1)):=by
 induction l generalizing i with
 | nil=>simp at h
 | cons y l ih =>
   cases i with
   | zero=>simp at h;subst h;simp [rows]
   | succ i =>
     have:=ih (i:=i) (by simpa using h)
     have e:rows f (y::l)=f y++rows f l:=by simp [rows]
     rw [e,List.drop_append,hf y,show (i+1)*k - k=i*k by rw [Nat.add_mul];omega,List.drop_eq_nil_of_le (by rw [hf y,Nat.add_mul];omega),List.nil_append,this]
     simp
theorem DF {α:Type} {f:α→List AV} {k:Nat} (hf:∀ x,(f x).length=k) (l:List α):(rows f l).length=l.length*k:=by
 induction l with
 | nil=>simp [rows]
 | cons y l ih =>
   have e:rows f (y::l)=f y++rows f l:=by simp [rows]
   rw [e,List.length_append,hf y,ih,List.length_cons,Nat.add_mul];omega
theorem GN {α:Type} (f:α→List AV) (l m:List α):rows f (l++m)=rows f l++rows f m:=by simp [rows]
theorem Dm {α:Type} (f:α→List AV) (x:α) (m:List α):rows f (x::m)=f x++rows f m:=by simp [rows]
theorem Sh {α:Type} {f:α→List AV} {l:List α} (h:∀ x∈l,AL (f x)=true):AL (rows f l)=true:=by
 have LW:∀ a b:List AV,AL a=true→AL b=true→AL (a++b)=true:=by
   intro a b ha hb
   induction a with
   | nil=>exact hb
   | cons x a ih =>
     simp only [AL,Bool.and_eq_true,List.cons_append] at ha ⊢
     exact ⟨ha.1,ih ha.2⟩
 induction l with
 | nil=>rfl
 | cons y l ih=>rw [Dm];exact LW _ _ (h y List.mem_cons_self) (ih fun x hx=>h x (List.mem_cons_of_mem _ hx))
theorem R8 {P:Program} {α:Type} {f:α→List AV} {k:Nat} {t elem:TypeId} {e:TypeInfo} (hu:P.underlying t=some (.slice elem)) (he:P.info? elem=some e) (hk:e.size=k) (hf:∀ x,(f x).length=k) {own:Own} {l:List α} {i:Nat} {x:α} (h:l[i]?=some x) :
   BD P t (.sl own l.length (rows f l)) (.sc (.int .i64 (i:Int)))=some (.el (f x++rows f (l.drop (i+1)))):=by
 have hi:=(List.getElem?_eq_some_iff.1 h).1
 have hn:IA (.sc (.int .i64 (i:Int)))=some i:=by
   unfold IA
   simp
 unfold BD
 rw [hu,hn]
 simp only [he,hk,if_pos hi,Ji hf h]
theorem WD {i:Nat} (h:i≤9223372036854775807):IntKind.i64.wrap (i:Int)=(i:Int):=by
 refine IntWalk.i64_in _ ?_
 omega
end AI
namespace AI
open Go Go.RowKit
section
variable {G:AB}
inductive NZ where
 | t (tmp sz:Nat)
 | b (id i sz:Nat)
 | l (tmp:Nat)
 | lb (id i:Nat)
def b7:AV→Bool
 | .sl .full n cs=>(match n with | 0=>(match cs with | []=>true | _=>false) | _=>false)
 | _=>false
def nG (fr:List AV) (s:AS):NZ→Option (List AV×AS)
 | .t k sz=>(match fr[k]? with
   | some a=>(match b7 a with
     | true=>some (fr.set k (.sl (.row s.nr sz) 0 []),s.tok)
     | false=>none)
   | none=>none)
 | .b id i sz=>(match look id s.h with
   | some (.cells cs)=>(match cs[i]? with
     | some a=>(match b7 a with
       | true=>some (fr,⟨Ix id (.cells (cs.set i (.sl (.row s.nr sz) 0 []))) s.h,s.nx,(s.nr,0)::s.F,s.nr+1⟩)
       | false=>none)
     | none=>none)
   | _=>none)
 | .l k=>(match fr[k]? with
   | some a=>some (fr.set k (RV a),s)
   | none=>none)
 | .lb id i=>(match look id s.h with
   | some (.cells cs)=>(match cs[i]? with
     | some a=>some (fr,⟨Ix id (.cells (cs.set i (RV a))) s.h,s.nx,s.F,s.nr⟩)
     | none=>none)
   | _=>none)
def mQ:List NZ→List AV→AS→Option (List AV×AS)
 | [],fr,s=>some (fr,s)
 | z::l,fr,s=>(match nG fr s z with
   | some (fr,s)=>mQ l fr s
   | none=>none)
def dK (G:AB) (fr:List AV) (s:AS) (fr2:List AV) (s2:AS):Prop:=∀ (cx:Cx) (w:World) (vs:List Value),St G cx w s→A6 cx w fr vs→∃ cx2,Ext cx w cx2 w∧St G cx2 w s2∧A6 cx2 w fr2 vs
theorem dK.refl {fr:List AV} {s:AS}:dK G fr s fr s:=fun cx w vs h1 h2=>⟨cx,Ext.refl _ _,h1,h2⟩
theorem dK.trans {fr fr2 fr3:List AV} {s s2 s3:AS} (h:dK G fr s fr2 s2) (k:dK G fr2 s2 fr3 s3):dK G fr s fr3 s3:=fun cx w vs h1 h2=>by
 obtain ⟨c2,x2,s2,r2⟩:=h cx w vs h1 h2
 obtain ⟨c3,x3,s3,r3⟩:=k c2 w vs s2 r2
 exact ⟨c3,x2.trans x3,s3,r3⟩
theorem Uh {a:AV} (h:b7 a=true) {c:Cx} {w:World} {v:Value} (hr:Rp c w a v) {r sz:Nat} (hl:r < c.rows.length):Rp c w (.sl (.row r sz) 0 []) v:=by
 unfold b7 at h
 split at h
 · split at h
   · split at h
     · cases hr with
       | sl0 h0=>exact .sl0 ⟨h0,hl⟩
       | sl1 hn hc ho =>
         have:_=0:=ho
         subst this
         exact .sl0 ⟨rfl,hl⟩
     · cases h
   · cases h
 · cases h
theorem OO {a:AV} {c:Cx} {w:World} {v:Value} (hr:Rp c w a v):Rp c w (RV a) v:=by
 cases hr with
 | sl0 _=>exact .sl0 trivial
 | sl1 hn hc ho=>exact .sl1 hn hc trivial
 | sc h=>exact .sc h
 | agg h=>exact .agg h
 | Bc h=>exact .Bc h
 | msl h1 h2=>exact .msl h1 h2
 | el h=>exact .el h
 | ptr h=>exact .ptr h
 | fn h1 h2=>exact .fn h1 h2
 | ifc h=>exact .ifc h
 | mp h=>exact .mp h
 | any h=>exact .any h
 | raw=>exact .raw
theorem A6.bW {c:Cx} {w:World} {as:List AV} {vs:List Value} (h:A6 c w as vs) {i:Nat} {a b:AV} (ha:as[i]?=some a) (hb:∀ v,Rp c w a v→Rp c w b v):A6 c w (as.set i b) vs:=by
 induction as generalizing vs i with
 | nil=>simp at ha
 | cons x as ih =>
   cases h with
   | cons h1 t =>
     cases i with
     | zero=>simp at ha;subst ha;exact .cons (hb _ h1) t
     | succ i=>exact .cons h1 (ih t (by simpa using ha))
theorem St.Sa {c:Cx} {w:World} {s:AS} (h:St G c w s) {id:Nat} {b b2:Ap} (hb:look id s.h=some b) (hk:∀ o,B1 c w b o→B1 c w b2 o):St G c w ⟨Ix id b2 s.h,s.nx,s.F,s.nr⟩ :=
 ⟨h.len,Kw h.desc,h.nodup,h.low,fun id' g b' h1 h2=>by
   rcases KJ h2 with ⟨rfl,rfl⟩ | ⟨_,h3⟩
   · obtain ⟨o,ho,hbo⟩:=h.box _ g b h1 hb
     exact ⟨o,ho,hk o hbo⟩
   · exact h.box id' g b' h1 h3,h.rlen,h.row,h.rfree,h.plow,h.blow,h.rdist,h.glob,h.bsz⟩
theorem fJ {fr fr2:List AV} {s s2:AS} {z:NZ} (h:nG fr s z=some (fr2,s2)):dK G fr s fr2 s2:=by
 intro cx w vs hs hr
 cases z with
 | t k sz =>
   simp only [nG] at h
   split at h
   · rename_i a ha
     split at h
     · rename_i hn
       cases h
       obtain ⟨x,st⟩:=hs.tok
       refine ⟨_,x,st,(hr.mono x).bW ha (fun v hv=>Uh hn hv ?_)⟩
       simp [hs.rlen]
     · cases h
   · cases h
 | b id i sz =>
   simp only [nG] at h
   split at h
   · rename_i cs hb
     split at h
     · rename_i a ha
       split at h
       · rename_i hn
         cases h
         obtain ⟨x,st⟩:=hs.tok
         refine ⟨_,x,st.Sa (b:=.cells cs) hb (fun o ho=>?_),hr.mono x⟩
         cases ho with
         | cellsX ext h1=>exact .cellsX ext (h1.bW ha (fun v hv=>Uh hn hv (by simp [hs.rlen])))
       · cases h
     · cases h
   · cases h
 | l k =>
   simp only [nG] at h
   split at h
   · rename_i a ha
     cases h
     exact ⟨cx,Ext.refl _ _,hs,hr.bW ha (fun v hv=>OO hv)⟩
   · cases h
 | lb id i =>
   simp only [nG] at h
   split at h
   · rename_i cs hb
     split at h
     · rename_i a ha
       cases h
       refine ⟨cx,Ext.refl _ _,hs.Sa (b:=.cells cs) hb (fun o ho=>?_),hr⟩
       cases ho with
       | cellsX ext h1=>exact .cellsX ext (h1.bW ha (fun v hv=>OO hv))
     · cases h
   · cases h
theorem VQ:∀ {l:List NZ} {fr fr2:List AV} {s s2:AS},mQ l fr s=some (fr2,s2)→dK G fr s fr2 s2:=by
 intro l
 induction l with
 | nil=>intro fr fr2 s s2 h;simp only [mQ] at h;cases h;exact .refl
 | cons z l ih =>
   intro fr fr2 s s2 h
   simp only [mQ] at h
   split at h
   · rename_i f1 s1 h1;exact (fJ h1).trans (ih h)
   · cases h
end
end AI
namespace AI
open Go Go.RowKit
def u6:Value→Value→Bool
 | .string a,.string b=>Cc a.data.toList b.data.toList
 | .int k a,.int k' b=>(match sameKind k k' with | true=>DM a b | false=>false)
 | a,b=>Zl a b
theorem lL {a b:Value} (h:u6 a b=true):a=b:=by
 unfold u6 at h
 split at h
 · rename_i x y
   rw [SL,beq_iff_eq] at h
   have:x=y:=ByteArray.ext (Array.ext' h)
   rw [this]
 · split at h
   · rename_i hk
     rw [JZ,beq_iff_eq] at h
     rw [LN hk,h]
   · cases h
 · exact TC h
def fD:Own→Own→Bool
 | .full,.full=>true
 | .lost,.lost=>true
 | .nil,.nil=>true
 | .nn,.nn=>true
 | _,_=>false
theorem XW {a b:Own} (h:fD a b=true):a=b:=by cases a<;>cases b<;>first | rfl | cases h
mutual
def Ob:AV→AV→Bool
 | .sc a,.sc b=>u6 a b
 | .agg a,.agg b=>VB a b
 | .Bc a,.Bc b=>VB a b
 | .sl o n a,.sl p m b=>(match fD o p with
   | true=>(match Nat.beq n m with | true=>VB a b | false=>false)
   | false=>false)
 | .ifc t a,.ifc u b=>(match Nat.beq t u with | true=>Ob a b | false=>false)
 | _,_=>false
def VB:List AV→List AV→Bool
 | [],[]=>true
 | a::as,b::bs=>(match Ob a b with | true=>VB as bs | false=>false)
 | _,_=>false
end
mutual
theorem Qb:∀ {a b:AV},Ob a b=true→a=b
 | .sc a,b,h=>by
   cases b<;>first
     | (simp only [Ob] at h;rw [lL h])
     | (simp [Ob] at h;done)
 | .agg a,b,h=>by
   cases b<;>first
     | (simp only [Ob] at h;rw [IV h])
     | (simp [Ob] at h;done)
 | .Bc a,b,h=>by
   cases b<;>first
     | (simp only [Ob] at h;rw [IV h])
     | (simp [Ob] at h;done)
 | .sl o n a,b,h=>by
   cases b<;>first
     | (simp only [Ob] at h
        split at h
        · rename_i h1
          split at h
          · rename_i h2;rw [XW h1,beq_true h2,IV h]
          · cases h
        · cases h)
     | (simp [Ob] at h;done)
 | .ifc t a,b,h=>by
   cases b<;>first
     | (simp only [Ob] at h
        split at h
        · rename_i h1;rw [beq_true h1,Qb h]
        · cases h)
     | (simp [Ob] at h;done)
 | .msl _ _ _,b,h=>by simp [Ob] at h
 | .el _,b,h=>by simp [Ob] at h
 | .ptr _ _,b,h=>by simp [Ob] at h
 | .fn _ _ _,b,h=>by simp [Ob] at h
 | .mp _,b,h=>by simp [Ob] at h
 | .any,b,h=>by simp [Ob] at h
theorem IV:∀ {a b:List AV},VB a b=true→a=b
 | [],b,h=>by cases b<;>first | rfl | (simp [VB] at h;done)
 | a::as,b,h=>by
   cases b<;>first
     | (simp [VB] at h;done)
     | (simp only [VB] at h
        split at h
        · rename_i h1;rw [Qb h1,IV h]
        · cases h)
end
structure By where
 f:Nat
 args:List AV
 box:Option (List AV×List AV)
 v:AV
def Aq (P:Program) (G:AB) (e:By):Prop:=match e.box with
 | none=>∀ s,Sound P G (.call e.f e.args s (.ret e.v) s)
 | some (cs,cs')=>∀ s id,s.get id=some (.cells cs)→Sound P G (.call e.f (.ptr id 0::e.args) s (.ret e.v) (s.put id (.cells cs')))
def Yy (id:Nat) (s:AS) (args:List AV) (e:By):Option (List AV×List AV)→Option (CR×AS)
 | some (cs,cs')=>(match s.get id with
   | some (.cells ds)=>(match VB ds.reverse cs.reverse with
     | true=>(match VB args e.args with
       | true=>some (.ret e.v,s.put id (.cells cs'))
       | false=>none)
     | false=>none)
   | _=>none)
 | none=>none
def hit (args:List AV) (s:AS) (e:By):Option (CR×AS) :=
 match args with
 | .ptr id 0::rest=>Yy id s rest e e.box
 | args=>(match e.box with
   | none=>(match VB args.reverse e.args.reverse with
     | true=>some (.ret e.v,s)
     | false=>none)
   | some _=>none)
def find (f:Nat) (args:List AV) (s:AS):List By→Option (CR×AS)
 | []=>none
 | e::l=>(match Nat.beq e.f f with
   | true=>(match hit args s e with
     | some r=>some r
     | none=>find f args s l)
   | false=>find f args s l)
theorem hP {P:Program} {G:AB} {args:List AV} {s s':AS} {e:By} {r:CR} (he:Aq P G e) (h:hit args s e=some (r,s')):Sound P G (.call e.f args s r s'):=by
 unfold hit at h
 split at h
 · rename_i id rest
   unfold Aq at he
   cases hb:e.box with
   | none=>rw [hb] at h;cases h
   | some q =>
     obtain ⟨cs,cs'⟩:=q
     rw [hb] at h he
     simp only [Yy] at h
     split at h
     · rename_i ds hg
       split at h
       · rename_i h1
         split at h
         · rename_i h2
           cases h
           have e1:=List.reverse_inj.1 (IV h1)
           have e2:=IV h2
           subst e1
           rw [e2]
           exact he s id hg
         · cases h
       · cases h
     · cases h
 · unfold Aq at he
   cases hb:e.box with
   | some q=>rw [hb] at h;cases h
   | none =>
     rw [hb] at h he
     simp only at h
     split at h
     · rename_i h1
       cases h
       have e1:=List.reverse_inj.1 (IV h1)
       rw [e1]
       exact he _
     · cases h
theorem ZI {P:Program} {G:AB} {f:Nat} {args:List AV} {s s':AS} {l:List By} {r:CR} (hl:∀ e∈l,Aq P G e) (h:find f args s l=some (r,s')):Sound P G (.call f args s r s'):=by
 induction l with
 | nil=>cases h
 | cons e l ih =>
   simp only [find] at h
   split at h
   · rename_i hf
     split at h
     · rename_i q hh
       cases h
       have:=hP (hl e List.mem_cons_self) hh
       rw [beq_true hf] at this
       exact this
     · exact ih (fun e he=>hl e (List.mem_cons_of_mem _ he)) h
   · exact ih (fun e he=>hl e (List.mem_cons_of_mem _ he)) h
def V6 (e:By):Option Rs→Bool
 | some (.call (.ret v) s)=>(match Ja v with
   | true=>(match Ob (G6 v) e.v with
     | true=>(match e.box with
       | none=>true
       | some (_,cs')=>(match s.get 0 with
         | some (.cells ds)=>(match DU ds with
           | true=>VB (Ka ds) cs'
           | false=>false)
         | _=>false))
     | false=>false)
   | false=>false)
 | _=>false
def Ki (e:By):Tk:=match e.box with
 | none=>.call e.f e.args s0
 | some (cs,_)=>.call e.f (.ptr 0 0::e.args) ⟨[(0,.cells cs)],1,[],0⟩
def NP (e:By):Bool:=AL e.args&&(match e.box with
 | none=>true
 | some (cs,_)=>AL cs)
theorem jP {P:Program} {G:AB} {X:NE} {H:Hl} (hg:T9 P G (XP X) H) (hG:∀ g cs,G g=some cs→AL cs=true) {n:Nat} {e:By} (hp:NP e=true) (h:V6 e (s6 P G X H n (Ki e))=true):Aq P G e:=by
 unfold NP at hp
 rw [Bool.and_eq_true] at hp
 cases hr:s6 P G X H n (Ki e) with
 | none=>rw [hr] at h;cases h
 | some rs =>
   rw [hr] at h
   have hrt:=fZ n _ _ hr
   cases rs with
   | code e fr s=>cases h
   | tr t fr s=>cases h
   | call c s =>
     cases c with
     | pan v=>cases h
     | ret v =>
       simp only [V6] at h
       split at h
       · rename_i hb
         split at h
         · rename_i he
           have ev:=Qb he
           unfold Aq
           cases hbx:e.box with
           | none =>
             intro s'
             unfold Ki at hrt
             rw [hbx] at hrt
             have:=Ri hG (sound hg hrt) hp.1 hb s'
             rw [ev] at this
             exact this
           | some q =>
             obtain ⟨cs,cs'⟩:=q
             intro s' id hid
             unfold Ki at hrt
             rw [hbx] at hrt h hp
             simp only at h hp
             split at h
             · rename_i ds hds
               split at h
               · rename_i hbd
                 have ec:=IV h
                 have:=Ru hG (sound hg hrt) hds hp.1 hp.2 hb hbd s' id hid
                 rw [ev,ec] at this
                 exact this
               · cases h
             · cases h
         · cases h
       · cases h
theorem Aa.cons {P:Program} {G:AB} {e:By} {l:List By} (he:Aq P G e) (hl:∀ e∈l,Aq P G e):∀ e'∈e::l,Aq P G e':=fun e' h=>by
 rcases List.mem_cons.1 h with h | h
 · rw [h];exact he
 · exact hl e' h
end AI
namespace AI
open Go Go.RowKit
inductive Hn where
 | k
 | b (b:Bool)
 | i (z:Int)
 | w (v:AV)
 | a (v:AV) (s:AS)
 | ae (v:AV)
 | m (s:AS)
 | l (v:AV)
 | s (s:AS)
 | c (v:AV) (s:AS)
 | o (v:AV)
 | z (c:Nat)
 | p (v:AV) (s:AS)
 | g (sz k:Nat) (cs:List AV)
 | u (v:AV) (pre:List (Nat×Ap)) (tp:List (Nat×Nat)) (ups:List (Nat×Ap)) (tu:List (Nat×Nat))
 | q (v:AV) (pre:List (Nat×Ap)) (tp:List (Nat×Nat)) (ups:List (Nat×Ap)) (tu:List (Nat×Nat))
 | n (l:List NZ)
 | x (b:Ap) (v:AV)
 | y (b b2:Ap)
 | lb (m:Ap) (v:AV)
 | sb (m m2:Ap)
 | mb (n:Nat) (m:Ap)
 | za
 | cn (v:AV) (h:List (Nat×Ap)) (dn:Nat) (F:List (Nat×Nat)) (dr:Nat)
 | f (id:Nat) (b b2:Ap)
inductive Cd where
 | eqb (B b:Bool)
 | eqi (X z:Int)
 | idx (t:TypeId) (a b v:AV)
 | bin (op:BinOp) (t:TypeId) (x y:Operand) (a b v:AV)
 | call (f:FuncId) (args:List AV) (s:AS) (v:AV)
 | LW (s:AS) (t tx:TypeId) (a b v:AV) (s1:AS)
 | ix (t:TypeId) (a b v:AV)
 | lk (s:AS) (t:TypeId) (a b:AV) (ok:Bool) (v:AV)
 | ms (s:AS) (t:TypeId) (a b v:AV) (s1:AS)
 | callS (f:FuncId) (args:List AV) (s:AS) (v:AV) (s1:AS)
 | ld (s:AS) (t:TypeId) (a v:AV)
 | st (s:AS) (t:TypeId) (a x:AV) (s1:AS)
 | mk (s:AS) (t:TypeId) (a b v:AV) (s1:AS)
 | sli (t:TypeId) (a:AV) (l h m:Option AV) (v:AV)
 | callP (f:FuncId) (args:List AV) (s:AS) (v:AV) (s1:AS)
 | pur (f:FuncId) (args:List AV) (v:AV)
 | XC (t tx:TypeId) (own:Own) (n:Nat) (cs:List AV) (b:AV) (sz k:Nat) (cs2:List AV)
 | eqn (k n:Nat)
 | callU (f:FuncId) (args:List AV) (r:CR) (pre:List (Nat×Ap)) (tp:List (Nat×Nat)) (ups:List (Nat×Ap)) (tu:List (Nat×Nat))
 | eqx (a b:List (Option Ap)) (c d:List (Option Nat))
 | lkB (b:Ap) (t:TypeId) (k:AV) (ok:Bool) (v:AV)
 | msB (b:Ap) (t:TypeId) (k v:AV) (b2:Ap)
 | ldB (b:Ap) (t:TypeId) (off:Nat) (v:AV)
 | stB (b:Ap) (t:TypeId) (off:Nat) (x:AV) (b2:Ap)
 | mkB (t:TypeId) (a x:AV) (n:Nat) (m:Ap)
 | apB (t tx:TypeId) (a b:AV) (n:Nat) (m:Ap)
 | callN (f:FuncId) (args:List AV) (nx nr:Nat) (v:AV) (h:List (Nat×Ap)) (dn:Nat) (F:List (Nat×Nat)) (dr:Nat)
 | rd (nr:Nat) (b b2:Ap)
def AS.KX (s:AS):List (Nat×Ap)→AS
 | []=>s
 | e::l=>(s.put e.1 e.2).KX l
def AS.Jz (s:AS):List (Nat×Nat)→AS
 | []=>s
 | e::l=>(AS.mk s.h s.nx (Vl e.1 e.2 s.F) s.nr).Jz l
def NM (s:AS):List (Nat×Ap)→List (Option Ap)
 | []=>[]
 | e::l=>s.get e.1::NM s l
def KF:List (Nat×Ap)→List (Option Ap)
 | []=>[]
 | e::l=>some e.2::KF l
def OS (F:List (Nat×Nat)):List (Nat×Nat)→List (Option Nat)
 | []=>[]
 | e::l=>BJ e.1 F::OS F l
def Lx:List (Nat×Nat)→List (Option Nat)
 | []=>[]
 | e::l=>some e.2::Lx l
def Cd.ok (P:Program) (G:AB):Cd→Prop
 | .eqb B b=>B=b
 | .eqi X z=>X=z
 | .idx t a b v=>BD P t a b=some v
 | .bin op t x y a b v=>GI P op t x y a b=some v
 | .call f args s v=>Sound P G (.call f args s (.ret v) s)
 | .LW s t tx a b v s1=>∃ v0,Fy P s t tx a b=some (v0,s1)∧∀ c w u,Rp c w v0 u→Rp c w v u
 | .ix t a b v=>Fo P t a b=some v
 | .lk s t a b ok v=>C4 P s t a b ok=some v
 | .ms s t a b v s1=>Ed P s t a b v=some s1
 | .callS f args s v s1=>Sound P G (.call f args s (.ret v) s1)
 | .ld s t a v=>DO P s t a=some v
 | .st s t a x s1=>EG P s t a x=some s1
 | .mk s t a b v s1=>Dz P s t a b=some (v,s1)
 | .sli t a l h m v=>Gr P t a l h m=some v
 | .callP f args s v s1=>Sound P G (.call f args s (.pan v) s1)
 | .pur f args v=>∀ s,Sound P G (.call f args s (.ret v) s)
 | .XC t tx own n cs b sz k cs2=>∀ s:AS,Gp sz s.F n own=true→∃ cs0,Fy P s t tx (.sl own n cs) b=some (.sl (c5 s sz own) k cs0,s.to k own)∧∀ c w u o,Rp c w (.sl o k cs0) u→Rp c w (.sl o k cs2) u
 | .eqn k n=>k=n
 | .callU f args r pre tp ups tu=>∀ s:AS,NM s pre=KF pre→OS s.F tp=Lx tp→Sound P G (.call f args s r ((s.KX ups).Jz tu))
 | .eqx a b c d=>a=b∧c=d
 | .lkB b t k ok v=>∀ (s:AS) (id:Nat),s.get id=some b→C4 P s t (.mp id) k ok=some v
 | .msB b t k v b2=>∀ (s:AS) (id:Nat),s.get id=some b→Ed P s t (.mp id) k v=some (s.put id b2)
 | .ldB b t off v=>∀ (s:AS) (id:Nat),s.get id=some b→DO P s t (.ptr id off)=some v
 | .stB b t off x b2=>∀ (s:AS) (id:Nat),s.get id=some b→EG P s t (.ptr id off) x=some (s.put id b2)
 | .mkB t a x n m=>∀ s:AS,∃ m0,Dz P s t a x=some (.msl s.nx 0 n,s.new m0)∧∀ (cx:Cx) (w:World) (o:Obj),B1 cx w m0 o→B1 cx w m o
 | .apB t tx a b n m=>∀ s:AS,iR P G t tx a b s (.msl s.nx 0 n) (s.new m)
 | .callN f args nx nr v h dn F dr=>∀ s:AS,s.nx=nx→s.nr=nr→Sound P G (.call f args s (.ret v) ⟨h++s.h,s.nx+dn,F++s.F,s.nr+dr⟩)
 | .rd nr b b2=>∀ (cx:Cx) (w:World) (o:Obj),nr < cx.rows.length→B1 cx w b o→B1 cx w b2 o
def Jj (P:Program) (G:AB):List Cd→Prop
 | []=>True
 | c::l=>c.ok P G∧Jj P G l
theorem Jj.LW {P:Program} {G:AB} {l m:List Cd} (h:Jj P G (l++m)):Jj P G l∧Jj P G m:=by
 induction l with
 | nil=>exact ⟨trivial,h⟩
 | cons c l ih=>exact ⟨⟨h.1,(ih h.2).1⟩,(ih h.2).2⟩
abbrev HO:=Option (AV×AS×List Hn×List Cd)
def Fh (s1:Option AR) (hs:List Hn):HO:=match s1 with
 | some (.val v s)=>some (v,s,hs,[])
 | _=>none
def qM (P:Program) (op:BinOp) (t:TypeId) (x y:Operand) (a b:AV) (s:AS):List Hn→HO
 | .k::hs=>(match MN P op t x y a b with
   | some v=>some (v,s,hs,[])
   | none=>none)
 | .b c::hs=>(match MN P op t x y a b with
   | some (.sc (.bool B))=>some (.sc (.bool c),s,hs,[.eqb B c])
   | _=>none)
 | .i z::hs=>(match MN P op t x y a b with
   | some (.sc (.int k X))=>some (.sc (.int k z),s,hs,[.eqi X z])
   | _=>none)
 | .w v::hs=>some (v,s,hs,[.bin op t x y a b v])
 | _=>none
def qA (P:Program) (t:TypeId) (a b:AV) (s:AS):List Hn→HO
 | .k::hs=>(match BD P t a b with
   | some v=>some (v,s,hs,[])
   | none=>none)
 | .w v::hs=>some (v,s,hs,[.idx t a b v])
 | _=>none
def Ot (s:AS) (r:Option AR):List Hn→HO
 | .w v::hs=>(match r with
   | some (.ent f args)=>some (v,s,hs,[.pur f args v])
   | _=>none)
 | .a v s1::hs=>(match r with
   | some (.ent f args)=>some (v,s1,hs,[.callS f args s v s1])
   | _=>none)
 | .u v pre tp ups tu::hs=>(match r with
   | some (.ent f args)=>some (v,(s.KX ups).Jz tu,hs,[.callU f args (.ret v) pre tp ups tu,.eqx (NM s pre) (KF pre) (OS s.F tp) (Lx tp)])
   | _=>none)
 | .cn v h dn F dr::hs=>(match r with
   | some (.ent f args)=>some (v,⟨h++s.h,s.nx+dn,F++s.F,s.nr+dr⟩,hs,[.callN f args s.nx s.nr v h dn F dr])
   | _=>none)
 | _=>none
def Zb (s:AS) (t tx:TypeId) (a b:AV):List Hn→HO
 | .mb n m::hs=>some (.msl s.nx 0 n,s.new m,hs,[.apB t tx a b n m])
 | .a v s1::hs=>some (v,s1,hs,[.LW s t tx a b v s1])
 | .ae v::hs=>some (v,s,hs,[.LW s t tx a b v s])
 | .g sz k cs2::hs=>(match a with
   | .sl .full n cs=>some (.sl (.row s.nr sz) k cs2,s.add k,hs,[.XC t tx .full n cs b sz k cs2])
   | .sl (.row r z) n cs=>(match BJ r s.F with
     | some m=>(match Nat.beq z sz with
       | true=>some (.sl (.row r sz) k cs2,s.grow r k,hs,[.XC t tx (.row r z) n cs b sz k cs2,.eqn m n])
       | false=>none)
     | none=>none)
   | _=>none)
 | _=>none
def rI (P:Program) (t:TypeId) (a b:AV) (s:AS):List Hn→HO
 | .k::hs=>(match Fo P t a b with
   | some v=>some (v,s,hs,[])
   | none=>none)
 | .w v::hs=>some (v,s,hs,[.ix t a b v])
 | _=>none
def dH (t:TypeId) (a b:AV) (ok:Bool) (s:AS):List Hn→HO
 | .w v::hs=>some (v,s,hs,[.lk s t a b ok v])
 | .x m v::hs=>(match a with
   | .mp id=>some (v,s,hs,[.lkB m t b ok v,.eqx [s.get id] [some m] [] []])
   | _=>none)
 | _=>none
def iG (t:TypeId) (a b v:AV) (s:AS):List Hn→HO
 | .m s1::hs=>some (.sc undef,s1,hs,[.ms s t a b v s1])
 | .y m m2::hs=>(match a with
   | .mp id=>some (.sc undef,s.put id m2,hs,[.msB m t b v m2,.eqx [s.get id] [some m] [] []])
   | _=>none)
 | _=>none
def Wz (t:TypeId) (a:Option AV) (s:AS) (r:Option AR):List Hn→HO
 | .l v::hs=>(match a with
   | some a=>some (v,s,hs,[.ld s t a v])
   | none=>none)
 | .lb m v::hs=>(match a with
   | some (.ptr id off)=>some (v,s,hs,[.ldB m t off v,.eqx [s.get id] [some m] [] []])
   | _=>none)
 | hs=>Fh r hs
def Sj (t:TypeId) (a x:Option AV) (s:AS) (r:Option AR):List Hn→HO
 | .s s1::hs=>(match a,x with
   | some a,some x=>some (.sc undef,s1,hs,[.st s t a x s1])
   | _,_=>none)
 | .sb m m2::hs=>(match a,x with
   | some (.ptr id off),some x=>some (.sc undef,s.put id m2,hs,[.stB m t off x m2,.eqx [s.get id] [some m] [] []])
   | _,_=>none)
 | hs=>Fh r hs
def V5 (t:TypeId) (a x:Option AV) (s:AS) (r:Option AR):List Hn→HO
 | .c v s1::hs=>(match a,x with
   | some a,some x=>some (v,s1,hs,[.mk s t a x v s1])
   | _,_=>none)
 | .mb n m::hs=>(match a,x with
   | some a,some x=>some (.msl s.nx 0 n,s.new m,hs,[.mkB t a x n m])
   | _,_=>none)
 | hs=>Fh r hs
def fX (t:TypeId) (a:Option AV) (l h m:Option (Option AV)) (s:AS) (r:Option AR):List Hn→HO
 | .o v::hs=>(match a,l,h,m with
   | some a,some l,some h,some m=>some (v,s,hs,[.sli t a l h m v])
   | _,_,_,_=>none)
 | hs=>Fh r hs
def X5 (P:Program) (G:AB) (fr:List AV) (s:AS) (o:Oper) (hs:List Hn):HO :=
 match o.op with
 | .binOp op t x y _=>(match Aw G fr x with
   | some a=>(match Aw G fr y with
     | some b=>qM P op t x y a b s hs
     | none=>none)
   | none=>none)
 | .indexAddr t x i=>(match Aw G fr x with
   | some a=>(match Aw G fr i with
     | some b=>qA P t a b s hs
     | none=>none)
   | none=>none)
 | .index t x i=>(match Aw G fr x with
   | some a=>(match Aw G fr i with
     | some b=>rI P t a b s hs
     | none=>none)
   | none=>none)
 | .lookup t x k ok=>(match Aw G fr x with
   | some a=>(match Aw G fr k with
     | some b=>dH t a b ok s hs
     | none=>none)
   | none=>none)
 | .mapUpdate t m k x=>(match Aw G fr m with
   | some a=>(match Aw G fr k with
     | some b=>(match Aw G fr x with
       | some v=>iG t a b v s hs
       | none=>none)
     | none=>none)
   | none=>none)
 | .load t x=>Wz t (AE G fr x) s (JF P G fr s o) hs
 | .store t x y=>Sj t (AE G fr x) (AE G fr y) s (JF P G fr s o) hs
 | .makeSlice t x y=>V5 t (AE G fr x) (AE G fr y) s (JF P G fr s o) hs
 | .slice t x lo hi mx=>fX t (AE G fr x) (Qd G fr lo) (Qd G fr hi) (Qd G fr mx) s (JF P G fr s o) hs
 | .call cl=>(match cl.callee with
   | .value _=>Ot s (JF P G fr s o) hs
   | .builtin .append=>(match cl.args.toList,cl.argTypes.toList with
     | [x,y],[t,tx]=>(match Aw G fr x with
       | some a=>(match Aw G fr y with
         | some b=>Zb s t tx a b hs
         | none=>none)
       | none=>none)
     | _,_=>none)
   | _=>Fh (JF P G fr s o) hs)
 | _=>Fh (JF P G fr s o) hs
def Qe (P:Program) (G:AB) (ops:Array Oper) (fr:List AV) (s:AS) (o:Oper) (hs:List Hn):HO :=
 match AY ops fr o with
 | true=>X5 P G fr s o hs
 | false=>some (.sc undef,s,hs,[])
section
variable {P:Program} {G:AB} {ops:Array Oper}
theorem Ll {r:Option AR} {hs hs':List Hn} {v:AV} {s:AS} {cd:List Cd} (h:Fh r hs=some (v,s,hs',cd)):r=some (.val v s):=by
 unfold Fh at h
 split at h
 · cases h;rfl
 · cases h
theorem Yf {t:TypeId} {a:Option AV} {r:Option AR} {hs hs':List Hn} {v:AV} {s s1:AS} {cd:List Cd} (h:Wz t a s r hs=some (v,s1,hs',cd)) (hc:Jj P G cd):(∃ a',a=some a'∧DO P s t a'=some v∧s1=s)∨Fh r hs=some (v,s1,hs',cd):=by
 unfold Wz at h
 split at h
 · split at h
   · cases h;exact .inl ⟨_,rfl,hc.1,rfl⟩
   · cases h
 · split at h
   · cases h;exact .inl ⟨_,rfl,hc.1 _ _ (List.cons.inj hc.2.1.1).1,rfl⟩
   · cases h
 · exact .inr h
theorem Lk {t:TypeId} {a x:Option AV} {r:Option AR} {hs hs':List Hn} {v:AV} {s s1:AS} {cd:List Cd} (h:Sj t a x s r hs=some (v,s1,hs',cd)) (hc:Jj P G cd):(∃ a' x',a=some a'∧x=some x'∧EG P s t a' x'=some s1∧v=.sc undef)∨Fh r hs=some (v,s1,hs',cd):=by
 unfold Sj at h
 split at h
 · split at h
   · cases h;exact .inl ⟨_,_,rfl,rfl,hc.1,rfl⟩
   · cases h
 · split at h
   · cases h;exact .inl ⟨_,_,rfl,rfl,hc.1 _ _ (List.cons.inj hc.2.1.1).1,rfl⟩
   · cases h
 · exact .inr h
theorem WG {t:TypeId} {a x:Option AV} {r:Option AR} {hs hs':List Hn} {v:AV} {s s1:AS} {cd:List Cd} (h:V5 t a x s r hs=some (v,s1,hs',cd)) (hc:Jj P G cd):(∃ a' x',a=some a'∧x=some x'∧∃ s0,Dz P s t a' x'=some (v,s0)∧∀ cx w,St G cx w s0→St G cx w s1)∨Fh r hs=some (v,s1,hs',cd):=by
 unfold V5 at h
 split at h
 · split at h
   · cases h;exact .inl ⟨_,_,rfl,rfl,_,hc.1,fun _ _ h=>h⟩
   · cases h
 · split at h
   · cases h
     obtain ⟨m0,h1,h2⟩:=hc.1 s
     refine .inl ⟨_,_,rfl,rfl,_,h1,fun cx w hs=>?_⟩
     have:=hs.Sa (id:=s.nx) (b:=m0) (b2:=_) (by simp [AS.new,look]) (fun o ho=>h2 cx w o ho)
     simpa [AS.new,Ix] using this
   · cases h
 · exact .inr h
theorem Ze {t:TypeId} {a:Option AV} {l k m:Option (Option AV)} {r:Option AR} {hs hs':List Hn} {v:AV} {s s1:AS} {cd:List Cd} (h:fX t a l k m s r hs=some (v,s1,hs',cd)) (hc:Jj P G cd):(∃ a' l' k' m',a=some a'∧l=some l'∧k=some k'∧m=some m'∧Gr P t a' l' k' m'=some v∧s1=s)∨Fh r hs=some (v,s1,hs',cd):=by
 unfold fX at h
 split at h
 · split at h
   · cases h;exact .inl ⟨_,_,_,_,rfl,rfl,rfl,rfl,hc.1,rfl⟩
   · cases h
 · exact .inr h
theorem lZ {fr:List AV} {s s1:AS} {o:Oper} {hs hs':List Hn} {v:AV} {cd:List Cd} (hw:AY ops fr o=true) (h:X5 P G fr s o hs=some (v,s1,hs',cd)) (hc:Jj P G cd):J P G (XS P G) H0 (.op ops o fr s (.ret v) s1):=by
 have plainC:Fh (JF P G fr s o) hs=some (v,s1,hs',cd)→J P G (XS P G) H0 (.op ops o fr s (.ret v) s1):=fun h=>by
   have:=Ll h
   rw [Fu] at this
   exact .opVal hw this
 unfold X5 at h
 split at h
 · rename_i op t x y z ho
   rw [A3,A3] at h
   split at h
   · rename_i a ha
     split at h
     · rename_i b hb
       have fin:∀ v',GI P op t x y a b=some v'→s1=s→v=v'→J P G (XS P G) H0 (.op ops o fr s (.ret v) s1):=by
         intro v' h1 h2 h3
         subst h2 h3
         refine .opVal hw ?_
         unfold Hr
         rw [ho]
         simp only [ha,hb,h1,Option.map_some]
       unfold qM at h
       rw [Nw] at h
       split at h
       · split at h
         · rename_i h1;cases h;exact fin _ h1 rfl rfl
         · cases h
       · split at h
         · rename_i h1;cases h
           have e:_=_:=hc.1
           subst e
           exact fin _ h1 rfl rfl
         · cases h
       · split at h
         · rename_i h1;cases h
           have e:_=_:=hc.1
           subst e
           exact fin _ h1 rfl rfl
         · cases h
       · cases h;exact fin _ hc.1 rfl rfl
       · cases h
     · cases h
   · cases h
 · rename_i t x i ho
   rw [A3,A3] at h
   split at h
   · rename_i a ha
     split at h
     · rename_i b hb
       have fin:∀ v',BD P t a b=some v'→s1=s→v=v'→J P G (XS P G) H0 (.op ops o fr s (.ret v) s1):=by
         intro v' h1 h2 h3
         subst h2 h3
         refine .opVal hw ?_
         unfold Hr
         rw [ho]
         simp only [ha,hb,h1,Option.map_some]
       unfold qA at h
       split at h
       · split at h
         · rename_i h1;cases h;exact fin _ h1 rfl rfl
         · cases h
       · cases h;exact fin _ hc.1 rfl rfl
       · cases h
     · cases h
   · cases h
 · rename_i t x i ho
   rw [A3,A3] at h
   split at h
   · rename_i a ha
     split at h
     · rename_i b hb
       have fin:∀ v',Fo P t a b=some v'→s1=s→v=v'→J P G (XS P G) H0 (.op ops o fr s (.ret v) s1):=by
         intro v' h1 h2 h3
         subst h2 h3
         refine .opVal hw ?_
         unfold Hr
         rw [ho]
         simp only [ha,hb,h1,Option.map_some]
       unfold rI at h
       split at h
       · split at h
         · rename_i h1;cases h;exact fin _ h1 rfl rfl
         · cases h
       · cases h;exact fin _ hc.1 rfl rfl
       · cases h
     · cases h
   · cases h
 · rename_i t x k ok ho
   rw [A3,A3] at h
   split at h
   · rename_i a ha
     split at h
     · rename_i b hb
       have h1:C4 P s t a b ok=some v∧s1=s:=by
         unfold dH at h
         split at h
         · cases h
           exact ⟨hc.1,rfl⟩
         · split at h
           · cases h
             refine ⟨hc.1 _ _ ?_,rfl⟩
             have h2:=hc.2.1.1
             simpa using h2
           · cases h
         · cases h
       obtain ⟨h1,rfl⟩:=h1
       refine .opVal hw ?_
       unfold Hr
       rw [ho]
       simp only [ha,hb,h1,Option.map_some]
     · cases h
   · cases h
 · rename_i t m k x ho
   rw [A3,A3,A3] at h
   split at h
   · rename_i a ha
     split at h
     · rename_i b hb
       split at h
       · rename_i x' hx
         have h1:Ed P s t a b x'=some s1∧v=.sc undef:=by
           unfold iG at h
           split at h
           · cases h
             exact ⟨hc.1,rfl⟩
           · split at h
             · cases h
               refine ⟨hc.1 _ _ ?_,rfl⟩
               have h2:=hc.2.1.1
               simpa using h2
             · cases h
           · cases h
         obtain ⟨h1,rfl⟩:=h1
         refine .opVal hw ?_
         unfold Hr
         rw [ho]
         simp only [ha,hb,hx,h1,Option.map_some]
       · cases h
     · cases h
   · cases h
 · rename_i t x ho
   rcases Yf h hc with ⟨a,ha,h1,rfl⟩ | h1
   · refine .opVal hw ?_
     unfold Hr
     rw [ho]
     simp only [ha,Option.bind_some,h1,Option.map_some]
   · exact plainC h1
 · rename_i t x y ho
   rcases Lk h hc with ⟨a,b,ha,hb,h1,rfl⟩ | h1
   · refine .opVal hw ?_
     unfold Hr
     rw [ho]
     simp only [ha,hb,h1,Option.map_some]
   · exact plainC h1
 · rename_i t x y ho
   rcases WG h hc with ⟨a,b,ha,hb,s0,h1,h2⟩ | h1
   · refine .opWeakS ?_ (.opVal (s':=s0) hw ?_) h2
     · simp only [quiet,ho]
     · unfold Hr
       rw [ho]
       simp only [ha,hb,h1,Option.map_some]
   · exact plainC h1
 · rename_i t x lo hi mx ho
   rcases Ze h hc with ⟨a,l,k,m,ha,hl,hk,hm,h1,rfl⟩ | h1
   · refine .opVal hw ?_
     unfold Hr
     rw [ho]
     simp only [ha,hl,hk,hm,h1,Option.map_some]
   · exact plainC h1
 · rename_i cl ho
   split at h
   · unfold Ot at h
     split at h
     · split at h
       · rename_i h1
         cases h
         rw [Fu] at h1
         exact .opCall hw h1 (.ext (hc.1 s))
       · cases h
     · split at h
       · rename_i h1
         cases h
         rw [Fu] at h1
         exact .opCall hw h1 (.ext hc.1)
       · cases h
     · split at h
       · rename_i h1
         cases h
         rw [Fu] at h1
         exact .opCall hw h1 (.ext (hc.1 s hc.2.1.1 hc.2.1.2))
       · cases h
     · split at h
       · rename_i h1
         cases h
         rw [Fu] at h1
         exact .opCall hw h1 (.ext (hc.1 s rfl rfl))
       · cases h
     · cases h
   · rename_i hcl
     split at h
     · rename_i x y t tx hxs hts
       rw [A3,A3] at h
       split at h
       · rename_i a ha
         split at h
         · rename_i b hb
           have fin:∀ v0,Fy P s t tx a b=some (v0,s1)→(∀ c w u,Rp c w v0 u→Rp c w v u)→J P G (XS P G) H0 (.op ops o fr s (.ret v) s1):=by
             intro v0 h1 h2
             refine .opWeak (v:=v0) ?_ (.opVal hw ?_) h2
             · simp only [quiet,ho,hcl]
             · unfold Hr
               rw [ho]
               simp only [JB,hcl,hxs,hts,ha,hb,h1,Option.map_some]
           unfold Zb at h
           split at h
           · cases h
             exact .opApp hw ho hcl hxs hts ha hb (hc.1 s)
           · cases h
             obtain ⟨v0,h1,h2⟩:=hc.1
             exact fin v0 h1 h2
           · cases h
             obtain ⟨v0,h1,h2⟩:=hc.1
             exact fin v0 h1 h2
           · split at h
             · cases h
               obtain ⟨cs0,h1,h2⟩:=hc.1 s rfl
               exact fin _ h1 (fun c w u=>h2 c w u _)
             · rename_i r z n cs
               split at h
               · rename_i m hm
                 split at h
                 · rename_i hz
                   have hz:=beq_true hz
                   subst hz
                   cases h
                   have e:m=n:=hc.2.1
                   subst e
                   obtain ⟨cs0,h1,h2⟩:=hc.1 s (by simp [Gp,hm])
                   exact fin _ h1 (fun c w u=>h2 c w u _)
                 · cases h
               · cases h
             · cases h
           · cases h
         · cases h
       · cases h
     · cases h
   · exact plainC h
 · exact plainC h
theorem It {fr:List AV} {s s1:AS} {o:Oper} {hs hs':List Hn} {v:AV} {cd:List Cd} (h:Qe P G ops fr s o hs=some (v,s1,hs',cd)) (hc:Jj P G cd):J P G (XS P G) H0 (.op ops o fr s (.ret v) s1):=by
 unfold Qe at h
 split at h
 · rename_i hw;exact lZ hw h hc
 · rename_i hw;cases h;exact .opSkip hw
end
end AI
namespace AI
open Go Go.RowKit
def Gi (op:Op):Bool:=match op with
 | .call cl=>(match cl.callee with | .value _=>true | _=>false)
 | _=>false
def Vn:List Hn→Bool
 | .a _ _::_=>true
 | .u _ _ _ _ _::_=>true
 | .cn _ _ _ _ _::_=>true
 | _=>false
def VX (P:Program) (G:AB) (ops:Array Oper) (fr:List AV) (s:AS) (o:Oper) (hs:List Hn):HO:=match Gi o.op with
 | true=>(match Vn hs with
   | true=>none
   | false=>Qe P G ops fr s o hs)
 | false=>Qe P G ops fr s o hs
theorem Jn {P:Program} {G:AB} {ops:Array Oper} {fr:List AV} {s:AS} {o:Oper} {hs:List Hn} {r:AV×AS×List Hn×List Cd} (h:VX P G ops fr s o hs=some r):Qe P G ops fr s o hs=some r∧(Gi o.op=true→Vn hs=false):=by
 unfold VX at h
 split at h
 · split at h
   · cases h
   · rename_i h1;exact ⟨h,fun _=>h1⟩
 · rename_i h1;exact ⟨h,fun h2=>by rw [h1] at h2;cases h2⟩
abbrev HT:=Option (List Hn×List Cd×List (List AV×AS×AV)×List AV×AS)
def Ve (cd:List Cd) (x:List AV×AS×AV):HT→HT
 | some (hs,cd',t,fr,s)=>some (hs,cd++cd',x::t,fr,s)
 | none=>none
def WH (P:Program) (G:AB) (ops:Array Oper):List Oper→Nat→List Hn→List AV→AS→HT
 | [],_,hs,fr,s=>some (hs,[],[],fr,s)
 | o::l,q,hs,fr,s=>(match AN o.op with
   | true=>Ve [] (fr,s,E5 ops fr o q) (WH P G ops l (q+1) hs (DK fr o.dst (E5 ops fr o q)) s)
   | false=>(match VX P G ops fr s o hs with
     | some (v,s1,hs1,cd)=>Ve cd (fr,s,v) (WH P G ops l q hs1 (DK fr o.dst v) s1)
     | none=>none))
def oZ (q0:Nat):Option AV→Bool
 | some (.el _)=>true
 | some (.ptr id _)=>Nat.blt id q0
 | _=>false
def oF (q0:Nat):Option AV→Bool
 | some (.ptr id _)=>Nat.ble q0 id
 | _=>false
def sZ:Option AV→Bool
 | some (.sl _ _ _)=>true
 | some (.sc (.string _))=>true
 | _=>false
def wA (q0:Nat):Option AV→Bool
 | some (.mp id)=>Nat.blt id q0
 | _=>false
def indep (G:AB) (q0:Nat) (fr:List AV) (o:Oper):Bool:=match o.op with
 | .load _ a=>oZ q0 (Aw G fr a)
 | .lookup _ m _ _=>wA q0 (Aw G fr m)
 | .store _ a _=>oF q0 (Aw G fr a)
 | .call cl=>(match cl.callee with
   | .value _=>true
   | .builtin .len=>(match cl.args.toList with
     | [x]=>sZ (Aw G fr x)
     | _=>false)
   | _=>quiet o.op)
 | .alloc _=>true
 | op=>quiet op
def Ff (G:AB) (ops:Array Oper) (q0:Nat):List Oper→List (List AV×AS×AV)→Bool
 | o::os,t::ts=>(match AY ops t.1 o with
   | false=>Ff G ops q0 os ts
   | true=>(match indep G q0 t.1 o with
     | true=>Ff G ops q0 os ts
     | false=>false))
 | _,_=>true
def Sz (q0:Nat) (s s':AS):Prop:=∀ id,id < q0→s'.get id=s.get id
theorem Dp {id id':Nat} {b:Ap} (h:id'≠id):∀ (l:List (Nat×Ap)),look id' (Ix id b l)=look id' l
 | []=>rfl
 | e::l=>by
   simp only [Ix]
   split
   · rename_i hb
     have hb:=beq_true hb
     simp only [look]
     have h1:Nat.beq id id'=false:=by cases hq:Nat.beq id id' with
       | true=>exact absurd (beq_true hq).symm h
       | false=>rfl
     rw [hb,h1]
   · simp only [look,Dp h l]
section
variable {P:Program} {G:AB} {ops:Array Oper}
theorem bC {q0:Nat} {fr:List AV} {s s1:AS} {o:Oper} {hs hs':List Hn} {v:AV} {cd:List Cd} (h:Qe P G ops fr s o hs=some (v,s1,hs',cd)) (hA:Gi o.op=true→Vn hs=false) (hi:AY ops fr o=true→indep G q0 fr o=true) (hc:Jj P G cd) (ha:AN o.op=false):Sz q0 s s1:=by
 intro id hid
 have hj:=It h hc
 cases hq:quiet o.op with
 | true=>rw [(DG hq hj).1]
 | false =>
   unfold Qe at h
   split at h
   · rename_i hw
     have hi:=hi hw
     unfold indep at hi
     split at hi
     · rename_i t a ho;rw [ho] at hq;cases hq
     · rename_i t m k ok ho;rw [ho] at hq;cases hq
     · rename_i t a x ho
       unfold X5 at h
       rw [ho] at h
       simp only at h
       have h1:∃ a' x',AE G fr a=some a'∧AE G fr x=some x'∧EG P s t a' x'=some s1:=by
         rcases Lk h hc with ⟨a',x',h2,h3,h4,_⟩ | h2
         · exact ⟨a',x',h2,h3,h4⟩
         · have h1:=Ll h2
           rw [Fu] at h1
           unfold Hr at h1
           rw [ho] at h1
           simp only at h1
           split at h1
           · rename_i a' x' ha' hx'
             obtain ⟨s',hst,he⟩:=map_some h1
             injection he with he1 he2
             subst he2
             exact ⟨a',x',ha',hx',hst⟩
           · cases h1
       rw [A3] at hi
       obtain ⟨a',x',ha',hx',hst⟩:=h1
       rw [ha'] at hi
       unfold oF at hi
       split at hi
       · rename_i id' off heq
         cases heq
         unfold EG at hst
         split at hst
         · rename_i i id2 off2 hi2 heq2
           cases heq2
           split at hst
           · split at hst
             · cases hst
               have:=Nat.le_of_ble_eq_true hi
               exact Dp (by omega) _
             · cases hst
           · cases hst
         · cases hst
       · cases hi
     · rename_i cl ho
       split at hi
       · rename_i f hcl
         unfold X5 at h
         rw [ho] at h
         simp only [hcl] at h
         unfold Ot at h
         split at h
         · split at h
           · cases h;rfl
           · cases h
         · have:=hA (by rw [ho];simp [Gi,hcl])
           simp [Vn] at this
         · have:=hA (by rw [ho];simp [Gi,hcl])
           simp [Vn] at this
         · have:=hA (by rw [ho];simp [Gi,hcl])
           simp [Vn] at this
         · cases h
       · rename_i hcl
         rw [ho] at hq
         simp [quiet,hcl] at hq
       · rw [ho] at hq;rw [ho,hq] at hi;cases hi
     · rename_i e ho;rw [ho] at ha;cases ha
     · rw [hq] at hi;cases hi
   · cases h;rfl
theorem Sz.refl (q0:Nat) (s:AS):Sz q0 s s:=fun _ _=>rfl
theorem Sz.trans {q0:Nat} {a b c:AS} (h:Sz q0 a b) (k:Sz q0 b c):Sz q0 a c:=fun id hid=>(k id hid).trans (h id hid)
theorem iM {q0:Nat} {l:List Oper} {q:Nat} {hs hs':List Hn} {fr fr':List AV} {s s':AS} {cd:List Cd} {t:List (List AV×AS×AV)} (h:WH P G ops l q hs fr s=some (hs',cd,t,fr',s')) (hc:Jj P G cd) (hi:Ff G ops q0 l t=true) :
   Ha P G (XS P G) H0 ops q l fr s t fr' s'∧(∀ x∈t,Sz q0 s x.2.1)∧Sz q0 s s':=by
 induction l generalizing q hs fr s cd t with
 | nil=>simp only [WH] at h;cases h;exact ⟨.nil,(fun x hx=>by cases hx),Sz.refl _ _⟩
 | cons o l ih =>
   simp only [WH] at h
   cases ha:AN o.op with
   | true =>
     rw [ha] at h
     simp only at h
     unfold Ve at h
     split at h
     · rename_i hs2 cd2 t2 fr2 s2 h2
       cases h
       have hi2:Ff G ops q0 l t2=true:=by
         simp only [Ff] at hi
         split at hi
         · exact hi
         · split at hi
           · exact hi
           · cases hi
       obtain ⟨k1,k2,k3⟩:=ih h2 (hc.LW).2 hi2
       refine ⟨.alloc ha k1,fun x hx=>?_,k3⟩
       rcases List.mem_cons.1 hx with rfl | hx
       · exact Sz.refl _ _
       · exact k2 x hx
     · cases h
   | false =>
     rw [ha] at h
     simp only at h
     split at h
     · rename_i v s1 hs1 cd1 h1
       unfold Ve at h
       split at h
       · rename_i hs2 cd2 t2 fr2 s2 h2
         cases h
         obtain ⟨c1,c2⟩:=hc.LW
         have hi1:AY ops fr o=true→indep G q0 fr o=true:=by
           intro hw
           simp only [Ff,hw] at hi
           split at hi
           · assumption
           · cases hi
         have hi2:Ff G ops q0 l t2=true:=by
           simp only [Ff] at hi
           split at hi
           · exact hi
           · split at hi
             · exact hi
             · cases hi
         have hf:=bC (Jn h1).1 (Jn h1).2 hi1 c1 ha
         obtain ⟨k1,k2,k3⟩:=ih h2 c2 hi2
         refine ⟨.cons ha (It (Jn h1).1 c1) k1,fun x hx=>?_,hf.trans k3⟩
         rcases List.mem_cons.1 hx with rfl | hx
         · exact Sz.refl _ _
         · exact hf.trans (k2 x hx)
       · cases h
     · cases h
theorem UH {q0:Nat} {os:List Oper} {ts:List (List AV×AS×AV)} (h:Ff G ops q0 os ts=true) {i:Nat} {o:Oper} {x:List AV×AS×AV} (ho:os[i]?=some o) (hx:ts[i]?=some x) (hw:AY ops x.1 o=true):indep G q0 x.1 o=true:=by
 induction os generalizing ts i with
 | nil=>simp at ho
 | cons y os ih =>
   cases ts with
   | nil=>simp at hx
   | cons t ts =>
     simp only [Ff] at h
     cases i with
     | zero =>
       simp at ho hx;subst ho hx
       rw [hw] at h
       simp only at h
       split at h
       · assumption
       · cases h
     | succ i =>
       have h2:Ff G ops q0 os ts=true:=by
         split at h
         · exact h
         · split at h
           · exact h
           · cases h
       exact ih h2 (by simpa using ho) (by simpa using hx)
theorem Ws {q0:Nat} {fr:List AV} {s0 s s2:AS} {o:Oper} {v:AV} (hq:quiet o.op=true) (hr:reads o.op=true) (hi:indep G q0 fr o=true) (h1:Sz q0 s0 s) (h2:Sz q0 s0 s2) (h:Hr P G fr s o=some (.val v s)):Hr P G fr s2 o=some (.val v s2):=by
 unfold indep at hi
 split at hi
 · rename_i t a ho
   rw [A3] at hi
   unfold Hr at h ⊢
   rw [ho] at h ⊢
   simp only at h ⊢
   obtain ⟨v',h3,h4⟩:=map_some h
   injection h4 with h4
   subst h4
   obtain ⟨b,h5,h6⟩:=bind_some h3
   rw [h5] at hi ⊢
   unfold oZ at hi
   split at hi
   · rename_i heq;cases heq
     simp only [Option.bind_some]
     rw [show DO P s2 t (.el _)=DO P s t (.el _) from rfl,h6];rfl
   · rename_i id off heq;cases heq
     have hid:id < q0:=Nat.le_of_ble_eq_true hi
     have:DO P s2 t (.ptr id off)=DO P s t (.ptr id off):=by
       simp only [DO]
       rw [h2 id hid,h1 id hid]
     simp only [Option.bind_some]
     rw [this,h6];rfl
   · cases hi
 · rename_i t m k ok ho
   rw [A3] at hi
   unfold Hr at h ⊢
   rw [ho] at h ⊢
   simp only at h ⊢
   unfold wA at hi
   split at hi
   · rename_i id heq
     have hid:id < q0:=Nat.le_of_ble_eq_true hi
     rw [heq] at h ⊢
     cases hk:AE G fr k with
     | none=>rw [hk] at h;cases h
     | some b =>
       rw [hk] at h
       simp only at h ⊢
       obtain ⟨v',h3,h4⟩:=map_some h
       injection h4 with h4
       subst h4
       have:C4 P s2 t (.mp id) b ok=C4 P s t (.mp id) b ok:=by
         unfold C4
         simp only
         rw [h2 id hid,h1 id hid]
       rw [this,h3];rfl
   · cases hi
 · rename_i t a x ho;rw [ho] at hq;cases hq
 · rename_i cl ho
   split at hi
   · rename_i f hcl;rw [ho] at hq;simp [quiet,hcl] at hq
   · rename_i hcl
     unfold Hr at h ⊢
     rw [ho] at h ⊢
     simp only [JB,hcl] at h ⊢
     split at hi
     · rename_i x hx
       rw [hx] at h ⊢
       cases ht:cl.argTypes.toList with
       | nil=>rw [ht] at h;cases h
       | cons t1 ts =>
         cases ts with
         | cons _ _=>rw [ht] at h;cases h
         | nil =>
           rw [ht] at h
           simp only at h ⊢
           obtain ⟨v',h3,h4⟩:=map_some h
           injection h4 with h4
           subst h4
           obtain ⟨b,h5,h6⟩:=bind_some h3
           rw [A3,h5] at hi
           rw [h5]
           simp only [Option.bind_some]
           have:LP P s2 t1 b=LP P s t1 b:=by
             unfold sZ at hi
             split at hi
             · rename_i heq;cases heq;unfold LP;split<;>first | rfl | (simp_all;done)
             · rename_i heq;cases heq;unfold LP;split<;>first | rfl | (simp_all;done)
             · cases hi
           rw [this,h6];rfl
     · cases hi
   · rename_i hn1 hn2
     rw [ho] at hr
     unfold reads at hr
     simp only at hr
     first
       | (cases hr;done)
       | (split at hr
          · rename_i hcl;exact absurd hcl hn2
          · cases hr)
 · rename_i e ho;rw [ho] at hq;cases hq
 · rename_i hn1 hn2 hn3 hn4 hn5
   exfalso
   unfold reads at hr
   split at hr
   · rename_i ho;exact hn1 _ _ ho
   · rename_i ho;exact hn2 _ _ _ _ ho
   · rename_i ho;exact hn4 _ ho
   · cases hr
theorem Wq {id:Nat} {fr fr':List AV} {s s':AS} {r:List Ap} {t:List (List AV×AS×AV)} {hs hs':List Hn} {cd:List Cd} (hord:F5 ops=true) (hr:YP P ops.toList=some r) (h:WH P G ops ops.toList s.nx hs fr (s.hold r)=some (hs',cd,t,fr',s')) (hc:Jj P G cd) (hi:Ff G ops s.nx ops.toList t=true) (hst1:Jc P ops t s' s.nx r=true):J P G (XS P G) H0 (.code (.region id ops true) fr s .normal fr' s'):=by
 obtain ⟨htr,hfar,hfar'⟩:=iM h hc hi
 have hlen:t.length=ops.size:=by rw [htr.len,Array.length_toList]
 have hfk:∀ k,Sz s.nx (s.hold r) (BK t s' k):=by
   intro k
   unfold BK
   split
   · rename_i x hx;exact hfar x (List.mem_of_getElem? hx)
   · exact hfar'
 obtain ⟨h0,hat⟩:=htr.at
 have hdst:∀ i o,ops[i]?=some o→Bg ops i=o.dst:=fun i o ho=>by unfold Bg;rw [ho];rfl
 obtain ⟨hfin,hfrs⟩:=htr.MM (Bg ops) (Dq t) fr 0 rfl (fun i o ho=>by rw [Nat.zero_add];exact hdst i o (by rw [← Array.getElem?_toList];exact ho)) (fun i=>.inl (by rw [Nat.zero_add]))
 rw [Nat.zero_add,Array.length_toList] at hfin
 have hall:∀ (i:Nat) (o:Oper),ops[i]?=some o→AN o.op=false→J P G (XS P G) H0 (.op ops o (EH fr (Bg ops) (Dq t) (fun _=>true) i) (BK t s' i) (.ret (Dq t i)) (BK t s' (i+1))):=by
   intro i o ho hna
   obtain ⟨fi,h1,h2⟩:=hat i o (AP ho)
   have:=hfrs i _ h1
   simp only [Nat.zero_add] at this
   rcases h2 with ⟨_,h2⟩ | ⟨h2,_⟩
   · rw [← this]
     exact h2
   · rw [hna] at h2;cases h2
 have hallA:∀ (i:Nat) (o:Oper),ops[i]?=some o→AN o.op=true→BK t s' (i+1)=BK t s' i∧Dq t i=E5 ops (EH fr (Bg ops) (Dq t) (fun _=>true) i) o (s.nx+rk ops i):=by
   intro i o ho hya
   obtain ⟨fi,h1,h2⟩:=hat i o (AP ho)
   have:=hfrs i _ h1
   simp only [Nat.zero_add] at this
   rcases h2 with ⟨h2,_⟩ | ⟨_,h2⟩
   · rw [hya] at h2;cases h2
   · rw [← this]
     exact h2
 have hna:∀ o:Oper,quiet o.op=true→AN o.op=false:=by
   intro o hq
   cases hya:AN o.op with
   | false=>rfl
   | true=>obtain ⟨e,he⟩:=DX hya;rw [FU he] at hq;cases hq
 have hnl:∀ o:Oper,calm o.op=false→AN o.op=false:=by
   intro o hq
   cases hya:AN o.op with
   | false=>rfl
   | true=>unfold calm at hq;rw [hya] at hq;cases hq
 have hsn:BK t s' ops.size=s':=by
   unfold BK
   rw [List.getElem?_eq_none (by omega)]
 have hsk:∀ k,k≤ops.size→(t.map (fun x=>x.2.1)++[s'])[k]?=some (BK t s' k):=by
   intro k hk
   unfold BK
   by_cases hkt:k < t.length
   · rw [List.getElem?_append_left (by simpa using hkt),List.getElem?_map,List.getElem?_eq_getElem hkt];rfl
   · have:k=t.length:=by omega
     subst this
     rw [List.getElem?_append_right (by simp)]
     simp
 have hloud:∀ l,l∈Ee ops.toList 0→Lo ops l:=by
   intro l hl
   obtain ⟨j,o',e,h5,h6⟩:=KR hl
   rw [Nat.zero_add] at e
   subst e
   exact ⟨o',by rw [← Array.getElem?_toList];exact h5,h6⟩
 have key:=J.draw (P:=P) (G:=G) (X:=XS P G) (H:=H0) (id:=id) (f0:=fr) (s0:=s) r (Dq t) (BK t s') h0 hord (fun i o ho hl=>hall i o ho (hnl o hl)) (fun i o ho hq=>by
   obtain ⟨h1,h2⟩:=DG hq (hall i o ho (hna o hq))
   refine ⟨h1,?_⟩
   rcases h2 with h2 | ⟨hw,h2⟩
   · exact .inl h2
   · refine .inr ⟨hw,fun k hk hwin=>?_⟩
     cases hrd:reads o.op with
     | false=>exact Im hq hrd h2 _
     | true =>
       obtain ⟨fi,hti,_⟩:=hat i o (AP ho)
       have hfi:=hfrs i _ hti
       simp only [Nat.zero_add] at hfi
       have hin:=UH hi (AP ho) hti (by rw [hfi];exact hw)
       rw [hfi] at hin
       exact Ws hq hrd hin (hfk i) (hfk k) h2) (fun i o e ho he=>by
   have hya:AN o.op=true:=by rw [he];rfl
   obtain ⟨h1,h2⟩:=hallA i o ho hya
   refine ⟨h1,?_⟩
   have hrk:rk ops i < r.length:=by
     rw [Tc hr]
     exact P2 (AP ho) hya (by rw [Array.length_toList];exact (Array.getElem?_eq_some_iff.1 ho).1)
   cases hw:AY ops (EH fr (Bg ops) (Dq t) (fun _=>true) i) o with
   | false=>unfold E5 at h2;rw [hw] at h2;exact .inl ⟨rfl,h2⟩
   | true =>
     unfold E5 at h2;rw [hw] at h2
     obtain ⟨fi,hti,_⟩:=hat i o (AP ho)
     have hfi:=hfrs i _ hti
     simp only [Nat.zero_add] at hfi
     have hal:IK P ops (Er ops.toList []) (Ee ops.toList 0) (t.map (·.2.1)++[s']) ops.toList t 0 s.nx=true:=by
       unfold Jc at hst1
       split at hst1
       · simp at hrk
       · exact hst1
     obtain ⟨z,hz,hbx⟩:=OJ hal (AP ho) hti he (by rw [hfi];exact hw)
     rw [Nat.zero_add] at hbx
     exact .inr ⟨rfl,z,hz,hrk,h2,fun k hk hwin=>On hbx (hsk k hk) (by rw [Nat.zero_add];exact PW hloud hwin)⟩)
 rw [← hfin,hsn] at key
 exact key
end
end AI
namespace AI
open Go Go.RowKit
def U8 (P:Program) (G:AB) (ops:Array Oper) (c:Nat):List Oper→Nat→List Hn→List AV→AS→HT
 | [],_,hs,fr,s=>some (hs,[],[],fr,s)
 | o::l,i,hs,fr,s=>(match (match Nat.beq i c with
     | true=>Qe P G ops fr s o hs
     | false=>VX P G ops fr s o hs) with
   | some (v,s1,hs1,cd)=>Ve cd (fr,s,v) (U8 P G ops c l (i+1) hs1 (DK fr o.dst v) s1)
   | none=>none)
def KN (ms:List Nat) (c:Nat):List Oper→Nat→Bool
 | [],_=>true
 | o::l,i=>(match Nat.beq i c with
   | true=>!calm o.op
   | false=>(match Gi o.op with
     | true=>Nat.blt i c
     | false=>quiet o.op&&(!reads o.op||(Nat.blt i c&&KV ms c i))))&&KN ms c l (i+1)
section
variable {P:Program} {G:AB} {ops:Array Oper}
theorem MB {ms:List Nat} {c:Nat}:∀ {l:List Oper} {i j:Nat} {o:Oper},KN ms c l i=true→l[j]?=some o→(i+j=c→calm o.op=false)∧(i+j≠c→(Gi o.op=true∧i+j < c)∨(quiet o.op=true∧(reads o.op=true→i+j < c∧KV ms c (i+j)=true))):=by
 intro l
 induction l with
 | nil=>intro i j o h ho;simp at ho
 | cons x l ih =>
   intro i j o h ho
   simp only [KN,Bool.and_eq_true] at h
   cases j with
   | zero =>
     simp at ho;subst ho
     have h1:=h.1
     split at h1
     · rename_i hb
       have:=Nat.eq_of_beq_eq_true hb
       exact ⟨fun _=>by simpa using h1,fun hn=>absurd this hn⟩
     · rename_i hb
       have:=Nat.ne_of_beq_eq_false hb
       refine ⟨fun hn=>absurd hn this,fun _=>?_⟩
       split at h1
       · rename_i hv
         exact .inl ⟨hv,Nat.le_of_ble_eq_true h1⟩
       · simp only [Bool.and_eq_true,Bool.or_eq_true,Bool.not_eq_true'] at h1
         refine .inr ⟨h1.1,fun hr=>?_⟩
         rcases h1.2 with h2 | h2
         · rw [hr] at h2;cases h2
         · exact ⟨Nat.le_of_ble_eq_true h2.1,h2.2⟩
   | succ j =>
     have:=ih (i:=i+1) (j:=j) h.2 (by simpa using ho)
     rw [show i+(j+1)=i+1+j by omega]
     exact this
theorem Lv {ms:List Nat} {c:Nat} {l:List Oper} {i j:Nat} {o:Oper} (hl:KN ms c l i=true) (hj:l[j]?=some o):AN o.op=false:=by
 have ho:=MB hl hj
 cases ha:AN o.op with
 | false=>rfl
 | true =>
   obtain ⟨e,he⟩:=DX ha
   by_cases hic:i+j=c
   · have:=ho.1 hic;unfold calm at this;rw [ha] at this;simp at this
   · rcases ho.2 hic with ⟨h1,_⟩ | ⟨h1,_⟩
     · rw [he] at h1;cases h1
     · rw [FU he] at h1;cases h1
theorem Zk {fr:List AV} {s s1:AS} {o:Oper} {hs hs':List Hn} {v:AV} {cd:List Cd} (h:Qe P G ops fr s o hs=some (v,s1,hs',cd)) (hv:Gi o.op=true) (hA:Vn hs=false):s1=s:=by
 unfold Qe at h
 split at h
 · unfold Gi at hv
   split at hv
   · rename_i cl ho
     split at hv
     · rename_i f hcl
       unfold X5 at h
       rw [ho] at h
       simp only [hcl] at h
       unfold Ot at h
       split at h
       · split at h
         · cases h;rfl
         · cases h
       · simp [Vn] at hA
       · simp [Vn] at hA
       · simp [Vn] at hA
       · cases h
     · cases hv
   · cases hv
 · cases h;rfl
theorem bG {c q:Nat} {ms:List Nat}:∀ {l:List Oper} {i:Nat} {hs hs':List Hn} {fr fr':List AV} {s s':AS} {cd:List Cd} {t:List (List AV×AS×AV)},U8 P G ops c l i hs fr s=some (hs',cd,t,fr',s')→Jj P G cd→KN ms c l i=true→Ha P G (XS P G) H0 ops q l fr s t fr' s'∧∀ j,j≤l.length→i+j≤c→BK t s' j=s:=by
 intro l
 induction l with
 | nil =>
   intro i hs hs' fr fr' s s' cd t h hc hl;simp only [U8] at h;cases h
   exact ⟨.nil,fun j hj _=>by rfl⟩
 | cons o l ih =>
   intro i hs hs' fr fr' s s' cd t h hc hl
   simp only [U8] at h
   split at h
   · rename_i v s1 hs1 cd1 h1
     unfold Ve at h
     split at h
     · rename_i hs2 cd2 t2 fr2 s2 h2
       cases h
       obtain ⟨c1,c2⟩:=hc.LW
       have ho:=MB (j:=0) hl rfl
       have hna:AN o.op=false:=Lv (j:=0) hl rfl
       have hl2:KN ms c l (i+1)=true:=by
         simp only [KN,Bool.and_eq_true] at hl;exact hl.2
       have h3:Qe P G ops fr s o hs=some (v,s1,hs1,cd1):=by
         split at h1
         · exact h1
         · exact (Jn h1).1
       have hj:=It h3 c1
       obtain ⟨k1,k2⟩:=ih h2 c2 hl2
       refine ⟨.cons hna hj k1,fun j hjl hjc=>?_⟩
       cases j with
       | zero=>rfl
       | succ j =>
         have e1:BK ((fr,s,v)::t2) s' (j+1)=BK t2 s' j:=by unfold BK;simp
         rw [e1,k2 j (by simpa using hjl) (by omega)]
         have hic:i+0≠c:=by omega
         rcases ho.2 hic with ⟨hv,_⟩ | ⟨hq,_⟩
         · split at h1
           · rename_i hb;have:=Nat.eq_of_beq_eq_true hb;omega
           · exact Zk h3 hv ((Jn h1).2 hv)
         · exact (DG hq hj).1
     · cases h
   · cases h
theorem Uv {id c:Nat} {fr fr':List AV} {s s':AS} {t:List (List AV×AS×AV)} {hs hs':List Hn} {cd:List Cd} (hord:F5 ops=true) (hcs:Nat.blt c ops.size=true) (hl:KN (Er ops.toList []) c ops.toList 0=true) (h:U8 P G ops c ops.toList 0 hs fr s=some (hs',cd,t,fr',s')) (hc:Jj P G cd):J P G (XS P G) H0 (.code (.region id ops true) fr s .normal fr' s'):=by
 have hcl:c < ops.size:=Nat.le_of_ble_eq_true hcs
 obtain ⟨htr,hsm⟩:=bG (q:=s.nx) h hc hl
 have hlen:t.length=ops.size:=by rw [htr.len,Array.length_toList]
 obtain ⟨h0,hat⟩:=htr.at
 have hdst:∀ i o,ops[i]?=some o→Bg ops i=o.dst:=fun i o ho=>by unfold Bg;rw [ho];rfl
 obtain ⟨hfin,hfrs⟩:=htr.MM (Bg ops) (Dq t) fr 0 rfl (fun i o ho=>by rw [Nat.zero_add];exact hdst i o (by rw [← Array.getElem?_toList];exact ho)) (fun i=>.inl (by rw [Nat.zero_add]))
 rw [Nat.zero_add,Array.length_toList] at hfin
 have hinfo:∀ (i:Nat) (o:Oper),ops[i]?=some o→(i=c→calm o.op=false)∧(i≠c→(Gi o.op=true∧i < c)∨(quiet o.op=true∧(reads o.op=true→i < c∧KV (Er ops.toList []) c i=true))):=by
   intro i o ho
   have:=MB (j:=i) hl (AP ho)
   rwa [Nat.zero_add] at this
 have hnal:∀ (i:Nat) (o:Oper),ops[i]?=some o→AN o.op=false:=fun i o ho=>Lv (j:=i) hl (AP ho)
 have hall:∀ (i:Nat) (o:Oper),ops[i]?=some o→J P G (XS P G) H0 (.op ops o (EH fr (Bg ops) (Dq t) (fun _=>true) i) (BK t s' i) (.ret (Dq t i)) (BK t s' (i+1))):=by
   intro i o ho
   obtain ⟨fi,h1,h2⟩:=hat i o (AP ho)
   have:=hfrs i _ h1
   simp only [Nat.zero_add] at this
   rcases h2 with ⟨_,h2⟩ | ⟨h2,_⟩
   · rw [← this]
     exact h2
   · rw [hnal i o ho] at h2;cases h2
 have hsn:BK t s' ops.size=s':=by
   unfold BK
   rw [List.getElem?_eq_none (by omega)]
 have hsame:∀ k,k≤c→BK t s' k=s:=fun k hk=>hsm k (by rw [Array.length_toList];omega) (by omega)
 have hloud:Lo ops c:=by
   have ho:ops[c]?=some ops[c]:=Array.getElem?_eq_getElem hcl
   exact ⟨_,ho,(hinfo c _ ho).1 rfl⟩
 have key:=J.draw (P:=P) (G:=G) (X:=XS P G) (H:=H0) (id:=id) (f0:=fr) (s0:=s) [] (Dq t) (BK t s') h0 hord (fun i o ho _=>hall i o ho) (fun i o ho hq=>by
   obtain ⟨h1,h2⟩:=DG hq (hall i o ho)
   refine ⟨h1,?_⟩
   rcases h2 with h2 | ⟨hw,h2⟩
   · exact .inl h2
   · refine .inr ⟨hw,fun k hk hwin=>?_⟩
     cases hrd:reads o.op with
     | false=>exact Im hq hrd h2 _
     | true =>
       have hic:i≠c:=fun e=>by
         subst e
         obtain ⟨o2,ho2,hcm⟩:=hloud
         rw [ho] at ho2;cases ho2
         rw [M4 hq] at hcm;cases hcm
       obtain ⟨hlt,hd⟩:i < c∧KV (Er ops.toList []) c i=true:=by
         rcases (hinfo i o ho).2 hic with ⟨hv,_⟩ | ⟨_,h3⟩
         · exfalso
           unfold Gi at hv
           split at hv
           · rename_i cl hop
             split at hv
             · rename_i f hcal
               rw [hop] at hq
               simp [quiet,hcal] at hq
             · cases hv
           · cases hv
         · exact h3 hrd
       have hkc:=hwin.2 c hloud hd
       rw [hsame k hkc]
       rw [hsame i (by omega)] at h2
       exact h2) (fun i o e ho he=>by
   have:=hnal i o ho
   rw [he] at this
   cases this)
 rw [← hfin,hsn] at key
 exact key
end
end AI
namespace AI
open Go Go.RowKit
def Wi (G:AB) (fr:List AV) (o:Oper) (hs:List Hn):Option (List Nat):=match o.op with
 | .store _ a _=>(match AE G fr a with
   | some (.ptr id _)=>some [id]
   | _=>none)
 | .mapUpdate _ m _ _=>(match Aw G fr m with
   | some (.mp id)=>some [id]
   | _=>none)
 | .call cl=>(match cl.callee with
   | .value _=>(match hs with
     | .w _::_=>some []
     | .u _ _ _ ups _::_=>some (ups.map (·.1))
     | .cn _ h _ _ _::_=>some (h.map (·.1))
     | _=>none)
   | .builtin .append=>(match hs with
     | .g _ _ _::_=>some []
     | .ae _::_=>some []
     | _=>none)
   | _=>(match quiet o.op with
     | true=>some []
     | false=>none))
 | op=>(match quiet op with
   | true=>some []
   | false=>none)
def Ns (G:AB) (ops:Array Oper) (fr:List AV) (o:Oper) (hs:List Hn):Option (List Nat):=match AY ops fr o with
 | true=>Wi G fr o hs
 | false=>some []
abbrev HA:=Option (List Hn×List Cd×List (List AV×AS×AV)×List (List Nat)×List AV×AS)
def eT (cd:List Cd) (x:List AV×AS×AV) (T:List Nat):HA→HA
 | some (hs,cd',t,Ts,fr,s)=>some (hs,cd++cd',x::t,T::Ts,fr,s)
 | none=>none
def Vh (P:Program) (G:AB) (ops:Array Oper):List Oper→List Hn→List AV→AS→HA
 | [],hs,fr,s=>some (hs,[],[],[],fr,s)
 | o::l,hs,fr,s=>(match AN o.op with
   | true=>none
   | false=>(match Ns G ops fr o hs with
     | some T=>(match Qe P G ops fr s o hs with
       | some (v,s1,hs1,cd)=>eT cd (fr,s,v) T (Vh P G ops l hs1 (DK fr o.dst v) s1)
       | none=>none)
     | none=>none))
def cT (G:AB) (fr:List AV) (o:Oper):Option (Option Nat):=match o.op with
 | .load _ a=>(match Aw G fr a with
   | some (.ptr id _)=>some (some id)
   | some (.el _)=>some none
   | _=>none)
 | .lookup _ m _ _=>(match Aw G fr m with
   | some (.mp id)=>some (some id)
   | _=>none)
 | .call cl=>(match cl.callee with
   | .builtin .len=>(match cl.args.toList with
     | [x]=>(match sZ (Aw G fr x) with
       | true=>some none
       | false=>none)
     | _=>none)
   | _=>none)
 | _=>none
def Wt (a:Nat):List Nat→Bool
 | []=>false
 | b::l=>(match Nat.beq a b with
   | true=>true
   | false=>Wt a l)
def Km (ms:List Nat) (id i:Nat):List (List Nat)→Nat→Bool
 | [],_=>true
 | T::Ts,l=>(match Wt id T with
   | true=>(match Nat.blt l i with
     | true=>KV ms i l
     | false=>(match Nat.blt i l with
       | true=>KV ms l i
       | false=>true))
   | false=>true)&&Km ms id i Ts (l+1)
def Qj (G:AB) (ops:Array Oper) (ms:List Nat) (Ts:List (List Nat)):List Oper→List (List AV×AS×AV)→Nat→Bool
 | o::os,t::ts,i=>(match AY ops t.1 o with
   | false=>true
   | true=>(match reads o.op with
     | false=>true
     | true=>(match cT G t.1 o with
       | none=>false
       | some none=>true
       | some (some id)=>Km ms id i Ts 0)))&&Qj G ops ms Ts os ts (i+1)
 | _,_,_=>true
theorem Rr {a:Nat}:∀ {l:List Nat},Wt a l=true↔a∈l
 | []=>by simp [Wt]
 | b::l=>by
   simp only [Wt]
   cases hb:Nat.beq a b with
   | true=>have:=Nat.eq_of_beq_eq_true hb;simp [this]
   | false =>
     have:=Nat.ne_of_beq_eq_false hb
     simp [Rr (l:=l),this]
theorem Rj {id:Nat}:∀ (l:List (Nat×Ap)) (s:AS),id∉l.map (·.1)→(s.KX l).get id=s.get id
 | [],_,_=>rfl
 | e::l,s,h=>by
   simp only [List.map_cons,List.mem_cons,not_or] at h
   rw [AS.KX,Rj l _ h.2]
   exact Dp h.1 _
theorem Qo {id:Nat}:∀ {l:List (Nat×Ap)} (m:List (Nat×Ap)),id∉l.map (·.1)→look id (l++m)=look id m
 | [],_,_=>rfl
 | e::l,m,h=>by
   simp only [List.map_cons,List.mem_cons,not_or] at h
   simp only [List.cons_append,look]
   have hb:Nat.beq e.1 id=false:=by
     cases hq:Nat.beq e.1 id with
     | false=>rfl
     | true=>exact absurd (Nat.eq_of_beq_eq_true hq).symm h.1
   rw [hb]
   exact Qo m h.2
theorem OU {id:Nat}:∀ (l:List (Nat×Nat)) (s:AS),(s.Jz l).get id=s.get id
 | [],_=>rfl
 | e::l,s=>by rw [AS.Jz,OU l];rfl
section
variable {P:Program} {G:AB} {ops:Array Oper}
theorem Vk {fr:List AV} {s s1:AS} {o:Oper} {hs hs':List Hn} {v:AV} {cd:List Cd} {T:List Nat} (h:Qe P G ops fr s o hs=some (v,s1,hs',cd)) (hT:Ns G ops fr o hs=some T) (hc:Jj P G cd) (ha:AN o.op=false) (id:Nat) (hid:id∉T):s1.get id=s.get id:=by
 have hj:=It h hc
 cases hq:quiet o.op with
 | true=>rw [(DG hq hj).1]
 | false =>
   unfold Qe at h
   unfold Ns at hT
   split at h
   · rename_i hw
     rw [hw] at hT
     simp only at hT
     unfold Wi at hT
     split at hT
     · rename_i t a x ho
       unfold X5 at h
       rw [ho] at h
       simp only at h
       have h1:∃ a' x',AE G fr a=some a'∧AE G fr x=some x'∧EG P s t a' x'=some s1:=by
         rcases Lk h hc with ⟨a',x',h2,h3,h4,_⟩ | h2
         · exact ⟨a',x',h2,h3,h4⟩
         · have h1:=Ll h2
           rw [Fu] at h1
           unfold Hr at h1
           rw [ho] at h1
           simp only at h1
           split at h1
           · rename_i a' x' ha' hx'
             obtain ⟨s',hst,he⟩:=map_some h1
             injection he with he1 he2
             subst he2
             exact ⟨a',x',ha',hx',hst⟩
           · cases h1
       obtain ⟨a',x',ha',hx',hst⟩:=h1
       rw [ha'] at hT
       split at hT
       · rename_i id' off heq
         cases heq
         cases hT
         simp only [List.mem_singleton] at hid
         unfold EG at hst
         split at hst
         · rename_i i id2 off2 hi2 heq2
           cases heq2
           split at hst
           · split at hst
             · cases hst
               exact Dp hid _
             · cases hst
           · cases hst
         · cases hst
       · cases hT
     · rename_i t m k x ho
       unfold X5 at h
       rw [ho] at h
       simp only at h
       split at hT
       · rename_i id' heq
         rw [heq] at h
         cases hT
         simp only [List.mem_singleton] at hid
         simp only at h
         split at h
         · split at h
           · have set_far:∀ kk x' s2,Ed P s t (.mp id') kk x'=some s2→s2.get id=s.get id:=by
               intro kk x' s2 h2
               unfold Ed at h2
               repeat' split at h2
               all_goals first
                 | (cases h2;done)
                 | (rename_i heq2;cases heq2;cases h2;exact Dp hid _)
                 | (simp_all only [AV.mp.injEq,Option.some.injEq];subst_vars;exact Dp hid _)
             unfold iG at h
             split at h
             · cases h;exact set_far _ _ _ hc.1
             · cases h
               exact Dp hid _
             · cases h
           · cases h
         · cases h
       · cases hT
     · rename_i cl ho
       split at hT
       · rename_i f hcl
         unfold X5 at h
         rw [ho] at h
         simp only [hcl] at h
         unfold Ot at h
         split at h
         · split at h
           · cases h;rfl
           · cases h
         · cases hT
         · split at h
           · cases h
             cases hT
             rw [OU]
             exact Rj _ _ hid
           · cases h
         · split at h
           · cases h
             cases hT
             exact Qo _ hid
           · cases h
         · cases h
       · rename_i hcl
         unfold X5 at h
         rw [ho] at h
         simp only [hcl] at h
         split at hT
         · split at h
           · split at h
             · split at h
               · unfold Zb at h
                 simp only at h
                 split at h
                 · cases h;rfl
                 · split at h
                   · split at h
                     · cases h;rfl
                     · cases h
                   · cases h
                 · cases h
               · cases h
             · cases h
           · cases h
         · split at h
           · split at h
             · split at h
               · unfold Zb at h
                 simp only at h
                 cases h;rfl
               · cases h
             · cases h
           · cases h
         · cases hT
       · rw [hq] at hT;cases hT
     · rw [hq] at hT;cases hT
   · cases h;rfl
theorem S3 {fr:List AV} {o:Oper} {hs:List Hn} {T:List Nat} (hT:Ns G ops fr o hs=some T) {id:Nat} (h:id∈T) (ha:AN o.op=false):calm o.op=false:=by
 unfold calm
 rw [ha]
 simp only
 cases hq:quiet o.op with
 | false=>rfl
 | true =>
   exfalso
   unfold Ns at hT
   split at hT
   · unfold Wi at hT
     split at hT
     · rename_i ho;rw [ho] at hq;cases hq
     · rename_i ho;rw [ho] at hq;cases hq
     · rename_i cl ho
       split at hT
       · rename_i hcl;rw [ho] at hq;simp [quiet,hcl] at hq
       · split at hT
         · cases hT;cases h
         · cases hT;cases h
         · cases hT
       · rw [hq] at hT;cases hT;cases h
     · rw [hq] at hT;cases hT;cases h
   · cases hT;cases h
theorem aM {q:Nat}:∀ {l:List Oper} {hs hs':List Hn} {fr fr':List AV} {s s':AS} {cd:List Cd} {t:List (List AV×AS×AV)} {Ts:List (List Nat)},Vh P G ops l hs fr s=some (hs',cd,t,Ts,fr',s')→Jj P G cd →
   Ha P G (XS P G) H0 ops q l fr s t fr' s'∧(∀ o∈l,AN o.op=false)∧(∀ (i:Nat) id,i < l.length→(∀ T,Ts[i]?=some T→id∉T)→(BK t s' (i+1)).get id=(BK t s' i).get id)∧∀ (i:Nat) o T id,l[i]?=some o→Ts[i]?=some T→id∈T→calm o.op=false:=by
 intro l
 induction l with
 | nil =>
   intro hs hs' fr fr' s s' cd t Ts h hc
   simp only [Vh] at h
   cases h
   exact ⟨.nil,(fun o h=>by cases h),(fun i id h=>by simp at h),fun i o T id h=>by simp at h⟩
 | cons o l ih =>
   intro hs hs' fr fr' s s' cd t Ts h hc
   simp only [Vh] at h
   split at h
   · cases h
   · rename_i ha
     split at h
     · rename_i T hT
       split at h
       · rename_i v s1 hs1 cd1 h1
         unfold eT at h
         split at h
         · rename_i hs2 cd2 t2 Ts2 fr2 s2 h2
           cases h
           obtain ⟨c1,c2⟩:=hc.LW
           obtain ⟨k1,k2,k3,k4⟩:=ih h2 c2
           refine ⟨.cons ha (It h1 c1) k1,fun o' ho'=>?_,fun i id hi hno=>?_,fun i o' T' id ho' hT' hid=>?_⟩
           · rcases List.mem_cons.1 ho' with rfl | ho'
             · exact ha
             · exact k2 o' ho'
           · cases i with
             | zero =>
               have e1:BK ((fr,s,v)::t2) s' 0=s:=rfl
               have e2:BK ((fr,s,v)::t2) s' (0+1)=s1:=by
                 rw [show BK ((fr,s,v)::t2) s' (0+1)=BK t2 s' 0 by unfold BK;simp]
                 exact k1.at.1
               rw [e1,e2]
               exact Vk h1 hT c1 ha id (hno T rfl)
             | succ i =>
               have e:∀ j,BK ((fr,s,v)::t2) s' (j+1)=BK t2 s' j:=fun j=>by unfold BK;simp
               rw [e,e]
               exact k3 i id (by simpa using hi) (fun T' h'=>hno T' (by simpa using h'))
           · cases i with
             | zero=>simp at ho' hT';subst ho' hT';exact S3 hT hid ha
             | succ i=>exact k4 i o' T' id (by simpa using ho') (by simpa using hT') hid
         · cases h
       · cases h
     · cases h
theorem Ny {ms:List Nat} {id i:Nat}:∀ {Ts:List (List Nat)} {l0:Nat},Km ms id i Ts l0=true→∀ {l:Nat} {T:List Nat},Ts[l]?=some T→id∈T→(l0+l < i→KV ms i (l0+l)=true)∧(i < l0+l→KV ms (l0+l) i=true):=by
 intro Ts
 induction Ts with
 | nil=>intro l0 _ l T h;simp at h
 | cons T0 Ts ih =>
   intro l0 h l T hT hid
   simp only [Km,Bool.and_eq_true] at h
   cases l with
   | zero =>
     simp at hT;subst hT
     have h1:=h.1
     rw [Rr.2 hid] at h1
     simp only at h1
     constructor
     · intro hlt
       have e:Nat.blt l0 i=true:=Nat.ble_eq_true_of_le hlt
       rw [e] at h1;exact h1
     · intro hlt
       have e:Nat.blt l0 i=false:=by
         cases hq:Nat.blt l0 i with
         | false=>rfl
         | true=>have:=Nat.le_of_ble_eq_true hq;omega
       have e2:Nat.blt i l0=true:=Nat.ble_eq_true_of_le hlt
       rw [e,e2] at h1;exact h1
   | succ l =>
     have:=ih h.2 (l:=l) (by simpa using hT) hid
     rw [show l0+(l+1)=l0+1+l by omega]
     exact this
theorem Yh {ms:List Nat} {Ts:List (List Nat)}:∀ {os:List Oper} {ts:List (List AV×AS×AV)} {i:Nat},Qj G ops ms Ts os ts i=true→∀ {j:Nat} {o:Oper} {x:List AV×AS×AV},os[j]?=some o→ts[j]?=some x→AY ops x.1 o=true→reads o.op=true→∃ r,cT G x.1 o=some r∧∀ id,r=some id→Km ms id (i+j) Ts 0=true:=by
 intro os
 induction os with
 | nil=>intro ts i _ j o x h;simp at h
 | cons y os ih =>
   intro ts i h j o x ho hx hw hr
   cases ts with
   | nil=>simp at hx
   | cons t ts =>
     simp only [Qj,Bool.and_eq_true] at h
     cases j with
     | zero =>
       simp at ho hx;subst ho hx
       have h1:=h.1
       rw [hw,hr] at h1
       simp only at h1
       split at h1
       · cases h1
       · rename_i hq;exact ⟨none,hq,fun id h=>by cases h⟩
       · rename_i id hq;exact ⟨some id,hq,fun id' h=>by cases h;exact h1⟩
     | succ j =>
       have:=ih h.2 (j:=j) (by simpa using ho) (by simpa using hx) hw hr
       rw [show i+(j+1)=i+1+j by omega]
       exact this
theorem YR {fr:List AV} {s s2:AS} {o:Oper} {v:AV} {r:Option Nat} (hr:cT G fr o=some r) (hs:∀ id,r=some id→s2.get id=s.get id) (h:Hr P G fr s o=some (.val v s)):Hr P G fr s2 o=some (.val v s2):=by
 unfold cT at hr
 split at hr
 · rename_i t a ho
   rw [A3] at hr
   unfold Hr at h ⊢
   rw [ho] at h ⊢
   simp only at h ⊢
   obtain ⟨v',h3,h4⟩:=map_some h
   injection h4 with h4
   subst h4
   obtain ⟨b,h5,h6⟩:=bind_some h3
   rw [h5] at hr ⊢
   split at hr
   · rename_i id off heq;cases heq
     cases hr
     have:DO P s2 t (.ptr id off)=DO P s t (.ptr id off):=by
       simp only [DO]
       rw [hs id rfl]
     simp only [Option.bind_some]
     rw [this,h6];rfl
   · rename_i heq;cases heq
     simp only [Option.bind_some]
     rw [show DO P s2 t (.el _)=DO P s t (.el _) from rfl,h6];rfl
   · cases hr
 · rename_i t m k ok ho
   rw [A3] at hr
   unfold Hr at h ⊢
   rw [ho] at h ⊢
   simp only at h ⊢
   split at hr
   · rename_i id heq
     cases hr
     rw [heq] at h ⊢
     split at h
     · rename_i a b ha hb
       cases ha
       obtain ⟨v',h3,h4⟩:=map_some h
       injection h4 with h4
       subst h4
       have:C4 P s2 t (.mp id) b ok=C4 P s t (.mp id) b ok:=by
         simp only [C4]
         rw [hs id rfl]
       rw [this,h3];rfl
     · cases h
   · cases hr
 · rename_i cl ho
   split at hr
   · rename_i hcl
     unfold Hr at h ⊢
     rw [ho] at h ⊢
     simp only [JB,hcl] at h ⊢
     split at hr
     · rename_i x hx
       rw [hx] at h ⊢
       cases ht:cl.argTypes.toList with
       | nil=>rw [ht] at h;cases h
       | cons t1 ts =>
         cases ts with
         | cons _ _=>rw [ht] at h;cases h
         | nil =>
           rw [ht] at h
           simp only at h ⊢
           obtain ⟨v',h3,h4⟩:=map_some h
           injection h4 with h4
           subst h4
           obtain ⟨b,h5,h6⟩:=bind_some h3
           rw [A3,h5] at hr
           rw [h5]
           simp only [Option.bind_some]
           split at hr
           · rename_i hsl
             have:LP P s2 t1 b=LP P s t1 b:=by
               unfold sZ at hsl
               split at hsl
               · rename_i heq;cases heq;unfold LP;split<;>first | rfl | (simp_all;done)
               · rename_i heq;cases heq;unfold LP;split<;>first | rfl | (simp_all;done)
               · cases hsl
             rw [this,h6];rfl
           · cases hr
     · cases hr
   · cases hr
 · cases hr
theorem XM {id:Nat} {fr fr':List AV} {s s':AS} {t:List (List AV×AS×AV)} {Ts:List (List Nat)} {hs hs':List Hn} {cd:List Cd} (hord:F5 ops=true) (h:Vh P G ops ops.toList hs fr s=some (hs',cd,t,Ts,fr',s')) (hr:Qj G ops (Er ops.toList []) Ts ops.toList t 0=true) (hc:Jj P G cd):J P G (XS P G) H0 (.code (.region id ops true) fr s .normal fr' s'):=by
 obtain ⟨htr,hna,hst,hlo⟩:=aM (q:=s.nx) h hc
 have hlen:t.length=ops.size:=by rw [htr.len,Array.length_toList]
 obtain ⟨h0,hat⟩:=htr.at
 have hdst:∀ i o,ops[i]?=some o→Bg ops i=o.dst:=fun i o ho=>by unfold Bg;rw [ho];rfl
 obtain ⟨hfin,hfrs⟩:=htr.MM (Bg ops) (Dq t) fr 0 rfl (fun i o ho=>by rw [Nat.zero_add];exact hdst i o (by rw [← Array.getElem?_toList];exact ho)) (fun i=>.inl (by rw [Nat.zero_add]))
 rw [Nat.zero_add,Array.length_toList] at hfin
 have hnal:∀ (i:Nat) (o:Oper),ops[i]?=some o→AN o.op=false:=fun i o ho=>hna o (List.mem_of_getElem? (AP ho))
 have hall:∀ (i:Nat) (o:Oper),ops[i]?=some o→J P G (XS P G) H0 (.op ops o (EH fr (Bg ops) (Dq t) (fun _=>true) i) (BK t s' i) (.ret (Dq t i)) (BK t s' (i+1))):=by
   intro i o ho
   obtain ⟨fi,h1,h2⟩:=hat i o (AP ho)
   have:=hfrs i _ h1
   simp only [Nat.zero_add] at this
   rcases h2 with ⟨_,h2⟩ | ⟨h2,_⟩
   · rw [← this]
     exact h2
   · rw [hnal i o ho] at h2;cases h2
 have hsn:BK t s' ops.size=s':=by
   unfold BK
   rw [List.getElem?_eq_none (by omega)]
 have hTl:∀ (l:Nat) T id,Ts[l]?=some T→id∈T→l < ops.size→Lo ops l:=by
   intro l T id hT hid hl
   exact ⟨ops[l],Array.getElem?_eq_getElem hl,hlo l ops[l] T id (AP (Array.getElem?_eq_getElem hl)) hT hid⟩
 have hsame:∀ (bx:Nat) (d i:Nat),i+d≤ops.size→(∀ l,i≤l→l < i+d→∀ T,Ts[l]?=some T→bx∉T)→(BK t s' (i+d)).get bx=(BK t s' i).get bx:=by
   intro bx d
   induction d with
   | zero=>intro i _ _;rfl
   | succ d ih =>
     intro i hle hno
     rw [show i+(d+1)=(i+d)+1 by omega,hst (i+d) bx (by rw [Array.length_toList];omega) (hno (i+d) (by omega) (by omega))]
     exact ih i (by omega) (fun l h1 h2=>hno l h1 (by omega))
 have key:=J.draw (P:=P) (G:=G) (X:=XS P G) (H:=H0) (id:=id) (f0:=fr) (s0:=s) [] (Dq t) (BK t s') h0 hord (fun i o ho _=>hall i o ho) (fun i o ho hq=>by
   obtain ⟨h1,h2⟩:=DG hq (hall i o ho)
   refine ⟨h1,?_⟩
   rcases h2 with h2 | ⟨hw,h2⟩
   · exact .inl h2
   · refine .inr ⟨hw,fun k hk hwin=>?_⟩
     cases hrd:reads o.op with
     | false=>exact Im hq hrd h2 _
     | true =>
       have hil:i < ops.size:=(Array.getElem?_eq_some_iff.1 ho).1
       obtain ⟨fi,hti,_⟩:=hat i o (AP ho)
       have hfi:=hfrs i _ hti
       simp only [Nat.zero_add] at hfi
       obtain ⟨r,hr1,hr2⟩:=Yh hr (AP ho) hti (by rw [hfi];exact hw) hrd
       rw [hfi] at hr1
       refine YR hr1 (fun bx hbx=>?_) h2
       have hto:=hr2 bx hbx
       rw [Nat.zero_add] at hto
       rcases Nat.lt_or_ge k i with hki | hki
       · have:=hsame bx (i - k) k (by omega) (fun l h3 h4 T hT hm=>by
           have hd:=(Ny hto hT hm).1 (by omega)
           rw [Nat.zero_add] at hd
           have:=hwin.1 l (hTl l T bx hT hm (by omega)) hd
           omega)
         rw [show k+(i - k)=i by omega] at this
         exact this.symm
       · have:=hsame bx (k - i) i (by omega) (fun l h3 h4 T hT hm=>by
           have hll:=hTl l T bx hT hm (by omega)
           rcases Nat.lt_or_ge i l with h5 | h5
           · have hd:=(Ny hto hT hm).2 (by omega)
             rw [Nat.zero_add] at hd
             have:=hwin.2 l hll hd
             omega
           · have:l=i:=by omega
             subst this
             obtain ⟨o2,ho2,hcm⟩:=hll
             rw [ho] at ho2;cases ho2
             rw [M4 hq] at hcm;cases hcm)
         rw [show i+(k - i)=k by omega] at this
         exact this) (fun i o e ho he=>by
   have:=hnal i o ho
   rw [he] at this
   cases this)
 rw [← hfin,hsn] at key
 exact key
end
end AI
namespace AI
open Go Go.RowKit
abbrev HS:=Option (List Hn×List Cd×List AV×AS)
def eH (cd:List Cd):HS→HS
 | some (hs,cd',fr,s)=>some (hs,cd++cd',fr,s)
 | none=>none
abbrev HC:=Option (AX×List Hn×List Cd×List AV×AS)
def Ol (cd:List Cd):HC→HC
 | some (e,hs,cd',fr,s)=>some (e,hs,cd++cd',fr,s)
 | none=>none
def lJ (P:Program) (G:AB) (ops:Array Oper) (fr:List AV) (s:AS) (o:Oper):List Hn→HO
 | .p v s1::hs=>(match AY ops fr o with
   | true=>(match JF P G fr s o with
     | some (.ent f args)=>some (v,s1,hs,[.callP f args s v s1])
     | some (.pan v')=>some (v',s,hs,[])
     | _=>none)
   | false=>none)
 | .q v pre tp ups tu::hs=>(match AY ops fr o with
   | true=>(match JF P G fr s o with
     | some (.ent f args)=>some (v,(s.KX ups).Jz tu,hs,[.callU f args (.pan v) pre tp ups tu,.eqx (NM s pre) (KF pre) (OS s.F tp) (Lx tp)])
     | _=>none)
   | false=>none)
 | _=>none
def Ym (P:Program) (G:AB) (ops:Array Oper):List Oper→List Hn→List AV→AS→HC
 | [],hs,fr,s=>some (.normal,hs,[],fr,s)
 | o::l,hs,fr,s=>(match lJ P G ops fr s o hs with
   | some (v,s1,hs1,cd)=>some (.pan v,hs1,cd,fr,s1)
   | none=>(match Qe P G ops fr s o hs with
     | some (v,s1,hs1,cd)=>Ol cd (Ym P G ops l hs1 (DK fr o.dst v) s1)
     | none=>none))
def Qv (P:Program) (G:AB) (ops:Array Oper):List Oper→List Hn→List AV→AS→HS
 | [],hs,fr,s=>some (hs,[],fr,s)
 | o::l,hs,fr,s=>(match VX P G ops fr s o hs with
   | some (v,s1,hs1,cd)=>eH cd (Qv P G ops l hs1 (DK fr o.dst v) s1)
   | none=>none)
def steady (op:Op):Bool:=match quiet op with
 | true=>true
 | false=>(match op with
   | .call cl=>(match cl.callee with | .value _=>true | _=>false)
   | _=>false)
def Ic:List Oper→Bool
 | []=>true
 | o::l=>(match steady o.op with | true=>Ic l | false=>false)
def pF:HS→HC
 | some (hs,cd,fr,s)=>some (.normal,hs,cd,fr,s)
 | none=>none
def pB (P:Program) (G:AB) (ops:Array Oper) (hs:List Hn) (fr:List AV) (s:AS):HC:=match YP P ops.toList with
 | some r=>(match WH P G ops ops.toList s.nx hs fr (s.hold r) with
   | some (hs',cd,t,fr',s')=>(match Ff G ops s.nx ops.toList t with
     | true=>(match Jc P ops t s' s.nx r with
       | true=>some (.normal,hs',cd,fr',s')
       | false=>none)
     | false=>none)
   | none=>none)
 | none=>none
def XE (P:Program) (G:AB) (ops:Array Oper) (c:Nat) (hs:List Hn) (fr:List AV) (s:AS):HC:=match Nat.blt c ops.size with
 | true=>(match KN (Er ops.toList []) c ops.toList 0 with
   | true=>(match U8 P G ops c ops.toList 0 hs fr s with
     | some (hs',cd,_,fr',s')=>some (.normal,hs',cd,fr',s')
     | none=>none)
   | false=>none)
 | false=>none
def dZ (P:Program) (G:AB) (ops:Array Oper) (hs:List Hn) (fr:List AV) (s:AS):HC:=match Vh P G ops ops.toList hs fr s with
 | some (hs',cd,t,Ts,fr',s')=>(match Qj G ops (Er ops.toList []) Ts ops.toList t 0 with
   | true=>some (.normal,hs',cd,fr',s')
   | false=>none)
 | none=>none
def dR (P:Program) (G:AB) (ops:Array Oper) (fr:List AV) (s:AS):List Hn→HC
 | .z c::hs=>XE P G ops c hs fr s
 | .za::hs=>dZ P G ops hs fr s
 | hs=>(match Ic ops.toList with
   | true=>pF (Qv P G ops ops.toList hs fr s)
   | false=>pB P G ops hs fr s)
def Xa (P:Program) (G:AB) (ops:Array Oper) (d:Bool) (hs:List Hn) (fr:List AV) (s:AS):HC:=match d with
 | false=>Ym P G ops ops.toList hs fr s
 | true=>(match F5 ops with
   | true=>dR P G ops fr s hs
   | false=>none)
def F1 (P:Program) (G:AB):Code→List Hn→List AV→AS→HC
 | .skip,hs,fr,s=>some (.normal,hs,[],fr,s)
 | .exit id,hs,fr,s=>some (.exit id,hs,[],fr,s)
 | .ret,hs,fr,s=>some (.ret,hs,[],fr,s)
 | .seq x y,hs,fr,s=>(match F1 P G x hs fr s with
   | some (.normal,hs1,cd,fr1,s1)=>Ol cd (F1 P G y hs1 fr1 s1)
   | r=>r)
 | .cond q x y,hs,fr,s=>(match Aw G fr q with
   | some (.sc (.bool true))=>F1 P G x hs fr s
   | some (.sc (.bool false))=>F1 P G y hs fr s
   | _=>none)
 | .block id c,hs,fr,s=>(match F1 P G c hs fr s with
   | some (e,hs1,cd,fr1,s1)=>some (Cu id e,hs1,cd,fr1,s1)
   | none=>none)
 | .region _ ops d,hs,fr,s=>(match hs with
   | .n l::hs=>(match mQ l fr s with
     | some (fr2,s2)=>Xa P G ops d hs fr2 s2
     | none=>none)
   | .f id b b2::hs=>(match look id s.h with
     | some b0=>Ol [.eqx [some b0] [some b] [] [],.rd s.nr b b2] (Xa P G ops d hs fr ⟨Ix id b2 s.h,s.nx,(s.nr,0)::s.F,s.nr+1⟩)
     | none=>none)
   | hs=>Xa P G ops d hs fr s)
 | _,_,_,_=>none
section
variable {P:Program} {G:AB} {ops:Array Oper}
theorem bL {fr:List AV} {s s1:AS} {o:Oper} {hs hs':List Hn} {v:AV} {cd:List Cd} (h:lJ P G ops fr s o hs=some (v,s1,hs',cd)) (hc:Jj P G cd):J P G (XS P G) H0 (.op ops o fr s (.pan v) s1):=by
 unfold lJ at h
 split at h
 · rw [Fu] at h
   split at h
   · rename_i hw
     split at h
     · rename_i h1
       cases h
       exact .opCall hw h1 (.ext hc.1)
     · rename_i h1
       cases h
       exact .opPan hw h1
     · cases h
   · cases h
 · rw [Fu] at h
   split at h
   · rename_i hw
     split at h
     · rename_i h1
       cases h
       exact .opCall hw h1 (.ext (hc.1 s hc.2.1.1 hc.2.1.2))
     · cases h
   · cases h
 · cases h
theorem cA {l:List Oper} {k:Nat} (hk:l=ops.toList.drop k) {hs hs':List Hn} {fr fr':List AV} {s s':AS} {e:AX} {cd:List Cd} (h:Ym P G ops l hs fr s=some (e,hs',cd,fr',s')) (hc:Jj P G cd):J P G (XS P G) H0 (.ops ops (List.range' k l.length) fr s e fr' s'):=by
 induction l generalizing k hs fr s cd with
 | nil=>simp only [Ym] at h;cases h;exact .opsNil
 | cons o l ih =>
   obtain ⟨k1,k2⟩:=drop_cons hk
   simp only [Ym] at h
   split at h
   · rename_i v s1 hs1 cd1 h1
     cases h
     rw [List.length_cons,List.range'_succ]
     exact .opsPan (by rw [← Array.getElem?_toList];exact k1) (bL h1 hc)
   · split at h
     · rename_i v s1 hs1 cd1 h1
       unfold Ol at h
       split at h
       · rename_i e2 hs2 cd2 fr2 s2 h2
         cases h
         obtain ⟨c1,c2⟩:=hc.LW
         rw [List.length_cons,List.range'_succ]
         exact .opsCons (by rw [← Array.getElem?_toList];exact k1) (It h1 c1) (ih k2 h2 c2)
       · cases h
     · cases h
theorem ZV {l:List Oper} {q:Nat} (hst:Ic l=true) {hs hs':List Hn} {fr fr':List AV} {s s':AS} {cd:List Cd} (h:Qv P G ops l hs fr s=some (hs',cd,fr',s')) (hc:Jj P G cd):s'=s∧∃ t,Ha P G (XS P G) H0 ops q l fr s t fr' s∧∀ x∈t,x.2.1=s:=by
 induction l generalizing hs fr cd s with
 | nil=>simp only [Qv] at h;cases h;exact ⟨rfl,[],.nil,fun x hx=>by cases hx⟩
 | cons o l ih =>
   simp only [Ic] at hst
   split at hst
   · rename_i hso
     simp only [Qv] at h
     split at h
     · rename_i v s1 hs1 cd1 h1
       unfold eH at h
       split at h
       · rename_i hs2 cd2 fr2 s2 h2
         cases h
         obtain ⟨c1,c2⟩:=hc.LW
         obtain ⟨h1,hA⟩:=Jn h1
         have hj:=It h1 c1
         have hna:AN o.op=false:=by
           cases ha:AN o.op with
           | false=>rfl
           | true=>obtain ⟨e,he⟩:=DX ha;rw [he] at hso;simp [steady,quiet] at hso
         have hs1:s1=s:=by
           cases hq:quiet o.op with
           | true=>exact (DG hq hj).1
           | false =>
             unfold steady at hso
             rw [hq] at hso
             simp only at hso
             split at hso
             · rename_i cl hop
               split at hso
               · rename_i f hcl
                 unfold Qe at h1
                 split at h1
                 · unfold X5 at h1
                   rw [hop] at h1
                   simp only [hcl] at h1
                   unfold Ot at h1
                   split at h1
                   · split at h1
                     · cases h1;rfl
                     · cases h1
                   · have:=hA (by rw [hop];simp [Gi,hcl])
                     simp [Vn] at this
                   · have:=hA (by rw [hop];simp [Gi,hcl])
                     simp [Vn] at this
                   · have:=hA (by rw [hop];simp [Gi,hcl])
                     simp [Vn] at this
                   · cases h1
                 · cases h1;rfl
               · cases hso
             · cases hso
         subst hs1
         obtain ⟨e,t,ht,hall⟩:=ih hst h2 c2
         subst e
         exact ⟨rfl,_,.cons hna hj ht,fun x hx=>by
           rcases List.mem_cons.1 hx with rfl | hx
           · rfl
           · exact hall x hx⟩
       · cases h
     · cases h
   · cases hst
theorem K6 {l:List Oper} (hst:Ic l=true) {i:Nat} {o:Oper} (ho:l[i]?=some o):steady o.op=true:=by
 induction l generalizing i with
 | nil=>simp at ho
 | cons x l ih =>
   simp only [Ic] at hst
   split at hst
   · rename_i hso
     cases i with
     | zero=>simp at ho;subst ho;exact hso
     | succ i=>exact ih hst (by simpa using ho)
   · cases hst
theorem SG {X:JK} {H:Hl} {id:Nat} {fr fr':List AV} {s:AS} {t:List (List AV×AS×AV)} (hord:F5 ops=true) (hst:Ic ops.toList=true) (h:Ha P G X H ops s.nx ops.toList fr s t fr' s) (hall:∀ x∈t,x.2.1=s):J P G X H (.code (.region id ops true) fr s .normal fr' s):=by
 have hlen:t.length=ops.size:=by rw [h.len,Array.length_toList]
 obtain ⟨h0,hat⟩:=h.at
 have hsa:∀ i,BK t s i=s:=by
   intro i
   unfold BK
   split
   · rename_i x hx;exact hall x (List.mem_of_getElem? hx)
   · rfl
 have hdst:∀ i o,ops[i]?=some o→Bg ops i=o.dst:=fun i o ho=>by unfold Bg;rw [ho];rfl
 obtain ⟨hfin,hfrs⟩:=h.MM (Bg ops) (Dq t) fr 0 rfl (fun i o ho=>by rw [Nat.zero_add];exact hdst i o (by rw [← Array.getElem?_toList];exact ho)) (fun i=>.inl (by rw [Nat.zero_add]))
 rw [Nat.zero_add,Array.length_toList] at hfin
 have hna:∀ (i:Nat) (o:Oper),ops[i]?=some o→AN o.op=false:=by
   intro i o ho
   have:=K6 hst (AP ho)
   cases ha:AN o.op with
   | false=>rfl
   | true=>obtain ⟨e,he⟩:=DX ha;rw [he] at this;simp [steady,quiet] at this
 have hj:∀ i o,ops[i]?=some o→J P G X H (.op ops o (EH fr (Bg ops) (Dq t) (fun _=>true) i) s (.ret (Dq t i)) s):=by
   intro i o ho
   obtain ⟨fi,h1,h2⟩:=hat i o (AP ho)
   have:=hfrs i _ h1
   simp only [Nat.zero_add] at this
   rcases h2 with ⟨_,h2⟩ | ⟨h2,_⟩
   · rw [← this]
     rw [hsa,hsa] at h2
     exact h2
   · rw [hna i o ho] at h2;cases h2
 have key:=J.draw (P:=P) (G:=G) (X:=X) (H:=H) (id:=id) (f0:=fr) (s0:=s) [] (Dq t) (fun _=>s) rfl hord (fun i o ho _=>hj i o ho) (fun i o ho hq=>⟨rfl,by
   obtain ⟨_,h2⟩:=DG hq (hj i o ho)
   rcases h2 with h2 | ⟨hw,h2⟩
   · exact .inl h2
   · exact .inr ⟨hw,fun k _ _=>h2⟩⟩) (fun i o e ho he=>by have:=hna i o ho;rw [he] at this;cases this)
 rw [← hfin] at key
 exact key
theorem P9 {ops:Array Oper} {id:Nat} {d:Bool} {hs hs':List Hn} {fr fr':List AV} {s s':AS} {e:AX} {cd:List Cd} (h:Xa P G ops d hs fr s=some (e,hs',cd,fr',s')) (hc:Jj P G cd):J P G (XS P G) H0 (.code (.region id ops d) fr s e fr' s'):=by
 unfold Xa at h
 cases d with
 | false =>
   simp only at h
   have:=cA (ops:=ops) (k:=0) (by simp) h hc
   refine .region ?_
   rw [Array.length_toList] at this
   rw [List.range_eq_range']
   exact this
 | true =>
   simp only at h
   split at h
   · rename_i hord
     unfold dR at h
     split at h
     · unfold XE at h
       split at h
       · rename_i hcs
         split at h
         · rename_i hl
           split at h
           · rename_i heq
             cases h
             exact Uv hord hcs hl heq hc
           · cases h
         · cases h
       · cases h
     · unfold dZ at h
       split at h
       · rename_i heq
         split at h
         · rename_i hrd
           cases h
           exact XM hord heq hrd hc
         · cases h
       · cases h
     split at h
     · rename_i hst
       unfold pF at h
       split at h
       · rename_i h1
         cases h
         obtain ⟨e,t,ht,hall⟩:=ZV (q:=s.nx) hst h1 hc
         subst e
         exact SG hord hst ht hall
       · cases h
     · unfold pB at h
       split at h
       · rename_i r hr
         split at h
         · rename_i hs1 cd1 t fr1 s1 htr
           split at h
           · rename_i hi
             split at h
             · rename_i hst1
               cases h
               exact Wq hord hr htr hc hi hst1
             · cases h
           · cases h
         · cases h
       · cases h
   · cases h
theorem Yz (c:Code) {hs hs':List Hn} {fr fr':List AV} {s s':AS} {e:AX} {cd:List Cd} (h:F1 P G c hs fr s=some (e,hs',cd,fr',s')) (hc:Jj P G cd):J P G (XS P G) H0 (.code c fr s e fr' s'):=by
 induction c generalizing hs hs' fr fr' s s' e cd with
 | skip=>simp only [F1] at h;cases h;exact .skip
 | exit id=>simp only [F1] at h;cases h;exact .exit
 | ret=>simp only [F1] at h;cases h;exact .ret
 | seq x y ihx ihy =>
   simp only [F1] at h
   cases hx:F1 P G x hs fr s with
   | none=>rw [hx] at h;cases h
   | some r =>
     obtain ⟨e1,hs1,cd1,fr1,s1⟩:=r
     rw [hx] at h
     cases e1 with
     | normal =>
       simp only at h
       unfold Ol at h
       split at h
       · rename_i e2 hs2 cd2 fr2 s2 h2
         cases h
         obtain ⟨c1,c2⟩:=hc.LW
         exact .seq (ihx hx c1) (ihy h2 c2)
       · cases h
     | exit id=>simp only at h;cases h;exact .seqX (ihx hx hc) (by simp)
     | ret=>simp only at h;cases h;exact .seqX (ihx hx hc) (by simp)
     | pan v=>simp only at h;cases h;exact .seqX (ihx hx hc) (by simp)
 | cond q x y ihx ihy =>
   simp only [F1,A3] at h
   split at h
   · rename_i hq;exact .cond hq (ihx h hc)
   · rename_i hq;exact .cond hq (ihy h hc)
   · cases h
 | block id c ih =>
   simp only [F1] at h
   split at h
   · rename_i h1;cases h;exact .block (ih h1 hc)
   · cases h
 | region id ops d =>
   simp only [F1] at h
   split at h
   · split at h
     · rename_i hz
       exact .weak (fun cx w vs h1 h2=>VQ hz cx w vs h1 h2) (P9 h hc)
     · cases h
   · split at h
     · rename_i b0 hb
       unfold Ol at h
       split at h
       · rename_i h1
         cases h
         obtain ⟨c1,c2⟩:=hc.LW
         refine .weak (fun cx w vs hs hf=>?_) (P9 h1 c2)
         have hbb:b0=_:=Option.some.inj (List.cons.inj c1.1.1).1
         subst hbb
         obtain ⟨x,st⟩:=hs.tok
         exact ⟨_,x,st.Sa hb (fun o ho=>c1.2.1 _ _ _ (by simp [hs.rlen]) ho),hf.mono x⟩
       · cases h
     · cases h
   · exact P9 h hc
 | _=>simp only [F1] at h;cases h
def Jf:Code→Bool
 | .loop _=>true
 | .seq x y=>Jf x||Jf y
 | .cond _ x y=>Jf x||Jf y
 | .block _ c=>Jf c
 | _=>false
abbrev HP:=Option (Code×List Hn×List Cd×List AV×AS)
end
end AI
namespace AI
open Go Go.RowKit
structure PC (P:Program) (G:AB) where
 hn:Hn
 cd:List Cd
 ok:Jj P G cd
def sA {P:Program} {G:AB}:List (PC P G)→List Hn
 | []=>[]
 | p::l=>p.hn::sA l
def Uq {P:Program} {G:AB}:List (PC P G)→List Cd
 | []=>[]
 | p::l=>p.cd++Uq l
theorem Jj.join {P:Program} {G:AB} {l m:List Cd} (h:Jj P G l) (k:Jj P G m):Jj P G (l++m):=by
 induction l with
 | nil=>exact k
 | cons c l ih=>exact ⟨h.1,ih h.2⟩
theorem Hf {P:Program} {G:AB} (l:List (PC P G)):Jj P G (Uq l):=by
 induction l with
 | nil=>trivial
 | cons p l ih=>exact p.ok.join ih
inductive KI where
 | code (c:Code)
 | endb (id:Nat)
def BV (P:Program) (G:AB):List KI→(AX→List AV→AS→Prop)→AX→List AV→AS→Prop
 | [],Q=>Q
 | .code k::ks,Q=>eI P G (XS P G) H0 k (BV P G ks Q)
 | .endb id::ks,Q=>B2 id (BV P G ks Q)
inductive Sq where
 | at (id:Nat) (c:Code) (ks:List KI)
 | fin (e:AX)
abbrev HR:=Option (Sq×List Hn×List Cd×List AV×AS)
def XZ (cd:List Cd):HR→HR
 | some (c,hs,cd',fr,s)=>some (c,hs,cd++cd',fr,s)
 | none=>none
def Js (r:Code→List KI→List Hn→List AV→AS→HR):List KI→AX→List Hn→List AV→AS→HR
 | [],e,hs,fr,s=>some (.fin e,hs,[],fr,s)
 | .code k::ks,.normal,hs,fr,s=>r k ks hs fr s
 | .code _::ks,e,hs,fr,s=>Js r ks e hs fr s
 | .endb id::ks,.exit id',hs,fr,s=>(match Nat.beq id' id with
   | true=>Js r ks .normal hs fr s
   | false=>Js r ks (.exit id') hs fr s)
 | .endb _::ks,e,hs,fr,s=>Js r ks e hs fr s
def L2 (P:Program) (G:AB):Nat→Code→List KI→List Hn→List AV→AS→HR
 | 0,_,_,_,_,_=>none
 | n+1,c,ks,hs,fr,s=>(match Jf c with
   | false=>(match F1 P G c hs fr s with
     | some (e,hs1,cd,fr1,s1)=>XZ cd (Js (L2 P G n) ks e hs1 fr1 s1)
     | none=>none)
   | true=>(match c with
     | .seq x y=>L2 P G n x (.code y::ks) hs fr s
     | .block id (.loop c)=>some (.at id c ks,hs,[],fr,s)
     | .block id c=>L2 P G n c (.endb id::ks) hs fr s
     | .cond q x y=>(match Aw G fr q with
       | some (.sc (.bool true))=>L2 P G n x ks hs fr s
       | some (.sc (.bool false))=>L2 P G n y ks hs fr s
       | _=>none)
     | _=>none))
section
variable {P:Program} {G:AB}
def sV (P:Program) (G:AB) (Q:AX→List AV→AS→Prop) (fr:List AV) (s:AS):Sq→Prop
 | .at id c ks=>WL P G (XS P G) H0 c fr s (B2 id (BV P G ks Q))
 | .fin e=>Q e fr s
theorem Gh {k:Code} {ks:List KI} {Q:AX→List AV→AS→Prop} {e:AX} {fr:List AV} {s:AS} (he:e≠.normal) (h:BV P G ks Q e fr s):BV P G (.code k::ks) Q e fr s:=by
 cases e with
 | normal=>exact absurd rfl he
 | exit id=>exact h
 | ret=>exact h
 | pan v=>exact h
theorem T7 {r:Code→List KI→List Hn→List AV→AS→HR} {Q:AX→List AV→AS→Prop}
   (hr:∀ (c:Code) (ks:List KI) {sp:Sq} {hs hs':List Hn} {fr fr':List AV} {s s':AS} {cd:List Cd},r c ks hs fr s=some (sp,hs',cd,fr',s')→Jj P G cd→sV P G Q fr' s' sp→W P G (XS P G) H0 c fr s (BV P G ks Q)) :
   ∀ (ks:List KI) (e:AX) {sp:Sq} {hs hs':List Hn} {fr fr':List AV} {s s':AS} {cd:List Cd},Js r ks e hs fr s=some (sp,hs',cd,fr',s')→Jj P G cd→sV P G Q fr' s' sp→BV P G ks Q e fr s:=by
 intro ks
 induction ks with
 | nil=>intro e sp hs hs' fr fr' s s' cd h hc hk;simp only [Js] at h;cases h;exact hk
 | cons k ks ih =>
   intro e sp hs hs' fr fr' s s' cd h hc hk
   cases k with
   | code c =>
     cases e with
     | normal=>simp only [Js] at h;exact hr c ks h hc hk
     | exit id=>simp only [Js] at h;exact Gh (by simp) (ih _ h hc hk)
     | ret=>simp only [Js] at h;exact Gh (by simp) (ih _ h hc hk)
     | pan v=>simp only [Js] at h;exact Gh (by simp) (ih _ h hc hk)
   | endb id =>
     show BV P G ks Q (Cu id e) fr s
     cases e with
     | normal=>simp only [Js] at h;exact ih _ h hc hk
     | ret=>simp only [Js] at h;exact ih _ h hc hk
     | pan v=>simp only [Js] at h;exact ih _ h hc hk
     | exit id' =>
       simp only [Js] at h
       split at h
       · rename_i hb
         have:=beq_true hb
         subst this
         have e1:Cu id' (.exit id')=.normal:=by simp [Cu]
         rw [e1]
         exact ih _ h hc hk
       · rename_i hb
         have:=beq_false hb
         have e1:Cu id (.exit id')=.exit id':=by simp [Cu,this]
         rw [e1]
         exact ih _ h hc hk
theorem Uj {Q:AX→List AV→AS→Prop}:∀ (n:Nat) (c:Code) (ks:List KI) {sp:Sq} {hs hs':List Hn} {fr fr':List AV} {s s':AS} {cd:List Cd},L2 P G n c ks hs fr s=some (sp,hs',cd,fr',s')→Jj P G cd→sV P G Q fr' s' sp→W P G (XS P G) H0 c fr s (BV P G ks Q):=by
 intro n
 induction n with
 | zero=>intro c ks sp hs hs' fr fr' s s' cd h;simp only [L2] at h;cases h
 | succ n ih =>
   intro c ks sp hs hs' fr fr' s s' cd h hc hk
   simp only [L2] at h
   split at h
   · split at h
     · rename_i e hs1 cd1 fr1 s1 h1
       unfold XZ at h
       split at h
       · rename_i h2
         cases h
         obtain ⟨c1,c2⟩:=hc.LW
         exact ⟨_,_,_,Yz c h1 c1,T7 ih ks e h2 c2 hk⟩
       · cases h
     · cases h
   · split at h
     · exact pQ (ih _ _ h hc hk)
     · cases h
       exact TM (jB hk)
     · exact TM (ih _ _ h hc hk)
     · rw [A3] at h
       split at h
       · rename_i hq;exact Z1 hq (ih _ _ h hc hk)
       · rename_i hq;exact aR hq (ih _ _ h hc hk)
       · cases h
     · cases h
end
end AI
namespace AI
open Go Go.RowKit
def sub:Code→List Nat→Code
 | c,[]=>c
 | .seq x _,0::l=>sub x l
 | .seq _ y,_::l=>sub y l
 | .cond _ x _,0::l=>sub x l
 | .cond _ _ y,_::l=>sub y l
 | .block _ c,_::l=>sub c l
 | .loop c,_::l=>sub c l
 | c,_=>c
def Bp (fn:Func):Code:=fn.body.getD .skip
def mS (n:Nat):AV→Bool
 | .sc _=>true
 | .any=>true
 | .ptr id _=>Nat.blt id n
 | .mp id=>Nat.blt id n
 | .msl id _ _=>Nat.blt id n
 | _=>false
theorem V2 {n m:Nat} {a:AV} (h:mS n a=true):Fits n m a a:=by
 refine .under ?_
 cases a<;>simp only [mS] at h<;>first | rfl | (cases h;done) | exact decide_eq_true (Nat.le_of_ble_eq_true h)
structure FP (n m:Nat) where
 a:AV
 b:AV
 h:Fits n m a b
structure FB (n m:Nat) where
 a:Ap
 b:Ap
 h:Hm n m a b
def RE {n m:Nat}:List (FP n m)→List AV
 | []=>[]
 | p::l=>p.a::RE l
def OC {n m:Nat}:List (FP n m)→List AV
 | []=>[]
 | p::l=>p.b::OC l
def pK {n m:Nat}:List (FB n m)→List Ap
 | []=>[]
 | p::l=>p.a::pK l
def dD {n m:Nat}:List (FB n m)→List Ap
 | []=>[]
 | p::l=>p.b::dD l
abbrev MR:=Option (List AV×List AV)
def Om (b:AV):MR→MR
 | some (l,as)=>some (b::l,as)
 | none=>none
def Xt (a b:AV):MR→MR
 | some (l,as)=>some (b::l,a::as)
 | none=>none
def WW (r:List AV→MR) (n:Nat) (a:AV) (bs:List AV):MR:=match mS n a with
 | true=>Om a (r bs)
 | false=>none
def cM (r:List AV→MR) (a:AV):List AV→MR
 | b::bs=>Xt a b (r bs)
 | []=>none
def Oz (r:List AV→MR) (a:AV) (bs:List AV):MR:=match KP a with
 | true=>Om .any (r bs)
 | false=>none
def N1 (n:Nat):List AV→Nat→List Nat→List AV→MR
 | [],_,_,[]=>some ([],[])
 | [],_,_,_::_=>none
 | a::l,i,[],bs=>Oz (N1 n l (i+2) []) a bs
 | a::l,i,t::ts,bs=>(match Nat.beq t i with
   | true=>WW (N1 n l (i+2) ts) n a bs
   | false=>(match Nat.beq t (i+1) with
     | true=>cM (N1 n l (i+2) ts) a bs
     | false=>Oz (N1 n l (i+2) (t::ts)) a bs))
section
variable {n m:Nat} {r:List AV→MR} {l:List AV} (hr:∀ (fps:List (FP n m)) l2,r (OC fps)=some (l2,RE fps)→Eh n m l l2) {a:AV} {fps:List (FP n m)} {l2:List AV}
include hr
theorem Yi (h:WW r n a (OC fps)=some (l2,RE fps)):Eh n m (a::l) l2:=by
 unfold WW at h
 split at h
 · rename_i ho
   unfold Om at h
   split at h
   · rename_i l3 as h1
     cases h
     exact .cons (V2 ho) (hr fps _ h1)
   · cases h
 · cases h
theorem Uc (h:cM r a (OC fps)=some (l2,RE fps)):Eh n m (a::l) l2:=by
 cases fps with
 | nil=>cases h
 | cons p fps =>
   simp only [OC,cM] at h
   unfold Xt at h
   split at h
   · rename_i l3 as h1
     simp only [RE,Option.some.injEq,Prod.mk.injEq,List.cons.injEq] at h
     obtain ⟨rfl,rfl,rfl⟩:=h
     exact .cons p.h (hr fps _ h1)
   · cases h
theorem Kf (h:Oz r a (OC fps)=some (l2,RE fps)):Eh n m (a::l) l2:=by
 unfold Oz at h
 split at h
 · rename_i hd
   unfold Om at h
   split at h
   · rename_i l3 as h1
     cases h
     exact .cons (.drop hd) (hr fps _ h1)
   · cases h
 · cases h
end
theorem YW {n m:Nat}:∀ {l:List AV} {i:Nat} {ts:List Nat} {fps:List (FP n m)} {l2:List AV},N1 n l i ts (OC fps)=some (l2,RE fps)→Eh n m l l2:=by
 intro l
 induction l with
 | nil =>
   intro i ts fps l2 h
   cases fps with
   | nil=>simp only [OC,N1] at h;cases h;exact .nil
   | cons p fps=>simp only [OC,N1] at h;cases h
 | cons a l ih =>
   intro i ts fps l2 h
   cases ts with
   | nil=>simp only [N1] at h;exact Kf (fun fps l2 h=>ih h) h
   | cons t ts =>
     simp only [N1] at h
     split at h
     · exact Yi (fun fps l2 h=>ih h) h
     · split at h
       · exact Uc (fun fps l2 h=>ih h) h
       · exact Kf (fun fps l2 h=>ih h) h
abbrev BR:=Option (List (Nat×Ap)×List Ap)
def eY (id:Nat) (a b:Ap):BR→BR
 | some (l,as)=>some ((id,b)::l,a::as)
 | none=>none
def RS:List (Nat×Ap)→List Ap→BR
 | [],[]=>some ([],[])
 | e::l,b::bs=>eY e.1 e.2 b (RS l bs)
 | _,_=>none
theorem ZY {n m:Nat}:∀ {l:List (Nat×Ap)} {fbs:List (FB n m)} {l2:List (Nat×Ap)},RS l (dD fbs)=some (l2,pK fbs)→(∀ k,DY l k→DY l2 k)∧∀ id b,look id l2=some b→∃ b',look id l=some b'∧Hm n m b' b:=by
 intro l
 induction l with
 | nil =>
   intro fbs l2 h
   cases fbs with
   | nil=>simp only [dD,RS] at h;cases h;exact ⟨fun _ _=>trivial,fun id b h=>by cases h⟩
   | cons p fbs=>simp only [dD,RS] at h;cases h
 | cons e l ih =>
   intro fbs l2 h
   cases fbs with
   | nil=>simp only [dD,RS] at h;cases h
   | cons p fbs =>
     simp only [dD,RS] at h
     unfold eY at h
     split at h
     · rename_i l3 as h1
       simp only [pK,Option.some.injEq,Prod.mk.injEq,List.cons.injEq] at h
       obtain ⟨rfl,h2,rfl⟩:=h
       obtain ⟨hd,hl⟩:=ih h1
       refine ⟨fun k hk=>⟨hk.1,hd _ hk.2⟩,fun id b hb=>?_⟩
       simp only [look] at hb ⊢
       split at hb
       · cases hb;exact ⟨e.2,rfl,by rw [h2];exact p.h⟩
       · exact hl id b hb
     · cases h
def Lw (m:Nat):List (Nat×Nat)→List (Nat×Nat)
 | []=>[]
 | x::l=>match Nat.blt x.1 m with
   | true=>x::Lw m l
   | false=>Lw m l
theorem QV {m r n:Nat} {l:List (Nat×Nat)} (h:BJ r (Lw m l)=some n):BJ r l=some n∧r < m:=by
 induction l with
 | nil=>cases h
 | cons x l ih =>
   simp only [Lw] at h
   split at h
   · rename_i hb
     simp only [BJ] at h ⊢
     split at h
     · rename_i h1
       have:=beq_true h1
       subst this
       cases h
       exact ⟨rfl,Nat.le_of_ble_eq_true hb⟩
     · exact ih h
   · rename_i hb
     obtain ⟨h1,h2⟩:=ih h
     refine ⟨?_,h2⟩
     simp only [BJ]
     split
     · rename_i h3
       have:=beq_true h3
       subst this
       rw [show Nat.blt x.1 m=true from Nat.ble_eq_true_of_le h2] at hb
       cases hb
     · exact h1
section
variable {P:Program} {G:AB}
def UR (G:AB) (s0:AS) (fr':List AV) (s':AS) (fr2:List AV) (s2:AS):Prop:=∀ (cx:Cx) (w:World) (c':Cx) (w':World) (vs:List Value),Ext cx w c' w'→St G cx w s0→St G c' w' s'→A6 c' w' fr' vs→∃ c2,Ext cx w c2 w'∧St G c2 w' s2∧A6 c2 w' fr2 vs
abbrev RR:=Option (List AV×AS×List AV×List Ap)
def gG (live:List Nat) (n m:Nat) (fr':List AV) (s':AS) (bs:List AV) (cs:List Ap):RR :=
 match N1 n fr' 0 live bs with
 | some (fr2,as)=>(match RS (Jt n s'.h) cs with
   | some (h2,cas)=>some (fr2,⟨h2,n,Lw m s'.F,m⟩,as,cas)
   | none=>none)
 | none=>none
theorem Qp {l:List (Nat×Ap)} {N n:Nat} (h:DY l N):DY (Jt n l) n:=by
 induction l generalizing N with
 | nil=>trivial
 | cons e l ih =>
   simp only [Jt]
   split
   · exact ih h.2
   · rename_i hb
     refine ⟨?_,h.2⟩
     have:¬ n≤e.1:=fun hle=>by rw [Nat.ble_eq_true_of_le hle] at hb;cases hb
     omega
def K1 (P:Program) (G:AB) (L:Code) (s0:AS) (Q:AX→List AV→AS→Prop):AX→List AV→AS→Prop
 | .normal,fr',s'=>∃ fr2 s2,UR G s0 fr' s' fr2 s2∧WL P G (XS P G) H0 L fr2 s2 Q
 | .exit id,fr',s'=>∃ fr2 s2,UR G s0 fr' s' fr2 s2∧Q (.exit id) fr2 s2
 | e,fr',s'=>Q e fr' s'
theorem PT {L:Code} {fr:List AV} {s:AS} {Q:AX→List AV→AS→Prop} (h:W P G (XS P G) H0 L fr s (K1 P G L s Q)):WL P G (XS P G) H0 L fr s Q:=by
 obtain ⟨e,fr',s',hj,h2⟩:=h
 cases e with
 | normal =>
   obtain ⟨fr2,s2,hf,e3,fr3,s3,h3,h4⟩:=h2
   exact ⟨e3,fr3,s3,.loopN (.scope hj (fun _ h=>by cases h) (fun cx w c' w' vs hx hs hs' hfr=>hf cx w c' w' vs hx hs hs' hfr)) h3,h4⟩
 | exit id =>
   obtain ⟨fr2,s2,hf,h4⟩:=h2
   exact ⟨_,_,_,.loopX (.scope hj (fun _ h=>by cases h) (fun cx w c' w' vs hx hs hs' hfr=>hf cx w c' w' vs hx hs hs' hfr)) (by simp),h4⟩
 | ret=>exact ⟨_,_,_,.loopX hj (by simp),h2⟩
 | pan v=>exact ⟨_,_,_,.loopX hj (by simp),h2⟩
def IX (P:Program) (fn:Func) (m:Nat) (Q:AX→List AV→AS→Prop) (v:AV) (s2:AS):Prop:=∀ fr s,Cm P s fn fr=some v→s.cut m=s2→Q .ret fr s
def Kb (m:Nat) (Q:AX→List AV→AS→Prop) (v:AV) (s2:AS):Prop:=∀ fr s,s.cut m=s2→Q (.pan v) fr s
theorem UF {ks:List KI} {Q:AX→List AV→AS→Prop} {fr:List AV} {s:AS} (h:Q .ret fr s):BV P G ks Q .ret fr s:=by
 induction ks with
 | nil=>exact h
 | cons k ks ih=>cases k<;>exact ih
theorem U4 {ks:List KI} {Q:AX→List AV→AS→Prop} {fr:List AV} {s:AS} {v:AV} (h:Q (.pan v) fr s):BV P G ks Q (.pan v) fr s:=by
 induction ks with
 | nil=>exact h
 | cons k ks ih=>cases k<;>exact ih
theorem IX.body {fn:Func} {m:Nat} {Q:CR→AS→Prop} {v:AV} {s2:AS} (h:Q (.ret v) s2):IX P fn m (Kd P fn m Q) v s2:=fun fr s h1 h2=>⟨v,h1,by rw [h2];exact h⟩
theorem Kb.body {fn:Func} {m:Nat} {Q:CR→AS→Prop} {v:AV} {s2:AS} (h:Q (.pan v) s2):Kb m (Kd P fn m Q) v s2:=fun fr s h2=>by show Q (.pan v) (s.cut m);rw [h2];exact h
theorem IX.outer {fn:Func} {m id:Nat} {ks:List KI} {Q:AX→List AV→AS→Prop} {v:AV} {s2:AS} (h:IX P fn m Q v s2):IX P fn m (B2 id (BV P G ks Q)) v s2:=fun fr s h1 h2=>UF (h fr s h1 h2)
theorem Kb.outer {m id:Nat} {ks:List KI} {Q:AX→List AV→AS→Prop} {v:AV} {s2:AS} (h:Kb m Q v s2):Kb m (B2 id (BV P G ks Q)) v s2:=fun fr s h1=>U4 (h fr s h1)
theorem IX.I5 {fn:Func} {m:Nat} {L:Code} {s0:AS} {Q:AX→List AV→AS→Prop} {v:AV} {s2:AS} (h:IX P fn m Q v s2):IX P fn m (K1 P G L s0 Q) v s2:=h
theorem Kb.I5 {m:Nat} {L:Code} {s0:AS} {Q:AX→List AV→AS→Prop} {v:AV} {s2:AS} (h:Kb m Q v s2):Kb m (K1 P G L s0 Q) v s2:=h
def o0 (P:Program) (fn:Func) (m:Nat):HR→Option (List Cd×AV×AS)
 | some (.fin .ret,[],cd,fr,s)=>(match Cm P s fn fr with
   | some v=>some (cd,v,s.cut m)
   | none=>none)
 | _=>none
def L5 (P:Program) (G:AB) (_l:List (PC P G)) (Q:AX→List AV→AS→Prop) (r:HR) (X:Prop):Prop:=∀ sp cd fr' s',r=some (sp,[],cd,fr',s')→Jj P G cd→sV P G Q fr' s' sp→X
theorem Ae {c:Code} {fr:List AV} {s:AS} {Q:AX→List AV→AS→Prop} (n:Nat) (l:List (PC P G)):L5 P G l Q (L2 P G n c [] (sA l) fr s) (W P G (XS P G) H0 c fr s Q):=fun _ _ _ _ h hc hk=>Uj n c [] h hc hk
theorem go_ret {r:HR} {X:Prop} {Q:AX→List AV→AS→Prop} (fn:Func) (m:Nat) {l:List (PC P G)} (v:AV) (s2:AS) (R:L5 P G l Q r X) (h:o0 P fn m r=some (Uq l,v,s2)) (k:IX P fn m Q v s2):X:=by
 unfold o0 at h
 split at h
 · rename_i cd fr' s'
   split at h
   · rename_i v' hv
     simp only [Option.some.injEq,Prod.mk.injEq] at h
     obtain ⟨rfl,rfl,rfl⟩:=h
     exact R _ _ _ _ rfl (Hf l) (k _ _ hv rfl)
   · cases h
 · cases h
def Su (a:AV):AV:=match KP a with
 | true=>.any
 | false=>a
theorem Vd {a:AV} {c:Cx} {w:World} {v:Value} (hr:Rp c w a v):Rp c w (Su a) v:=by
 unfold Su
 split
 · rename_i h;exact .any (J0 hr h)
 · exact hr
inductive Lp (γ δ ρ:Type) where
 | nx (x:γ)
 | ex (x:δ)
 | rt (r:ρ)
section loops
variable {α γ δ ρ:Type}
def Gs (k:γ→Option (δ⊕ρ)):Lp γ δ ρ→Option (δ⊕ρ)
 | .nx x=>k x
 | .ex d=>some (.inl d)
 | .rt r=>some (.inr r)
def A2 (body:Nat→α→γ→Option (Lp γ δ ρ)) (done:γ→δ):List α→Nat→γ→Option (δ⊕ρ)
 | [],_,x=>some (.inl (done x))
 | y::l,i,x=>(body i y x).bind (Gs (A2 body done l (i+1)))
def PI (body:Nat→γ→Option (Lp γ δ ρ)) (done:γ→δ):Nat→Nat→γ→Option (δ⊕ρ)
 | 0,_,x=>some (.inl (done x))
 | d+1,i,x=>(body i x).bind (Gs (PI body done d (i+1)))
def IZ {β:Type} (n:Nat) (x:Option β):Option β:=if n≤9223372036854775807 then x else none
theorem qS {β:Type} {n:Nat} {x:Option β} {r:β} (h:IZ n x=some r):n≤9223372036854775807∧x=some r:=by
 unfold IZ at h
 split at h
 · rename_i h1;exact ⟨h1,h⟩
 · cases h
theorem tA {β:Type} {b:Bool} {t f:Option β} {r:β} (h:cond b t f=some r):(b=true∧t=some r)∨(b=false∧f=some r):=by
 cases b
 · exact .inr ⟨rfl,h⟩
 · exact .inl ⟨rfl,h⟩
theorem Vu {β κ:Type} {m:Option κ} {k:κ→Option β} {r:β} (h:m.bind k=some r):∃ y,m=some y∧k y=some r:=by
 cases m with
 | none=>cases h
 | some y=>exact ⟨y,rfl,h⟩
def LQ (Qx:δ→Prop) (Qr:ρ→Prop):δ⊕ρ→Prop
 | .inl x=>Qx x
 | .inr r=>Qr r
def RQ (Qn:γ→Prop) (Qx:δ→Prop) (Qr:ρ→Prop):Lp γ δ ρ→Prop
 | .nx x=>Qn x
 | .ex x=>Qx x
 | .rt r=>Qr r
theorem Za {J:Type} {L:Code} {Q:AX→List AV→AS→Prop} {body:Nat→α→γ→Option (Lp γ δ ρ)} {done:γ→δ} (l:List α) (F:Nat→γ→J→List AV) (S:Nat→γ→J→AS) (Ok:J→Prop) (Qx:δ→Prop) (Qr:ρ→Prop)
   (hz:∀ i x j,Ok j→l.length≤i→Qx (done x)→WL P G (XS P G) H0 L (F i x j) (S i x j) Q)
   (hs:∀ i y x j r,Ok j→l[i]?=some y→i < l.length→body i y x=some r→RQ (fun x'=>∀ j',Ok j'→WL P G (XS P G) H0 L (F (i+1) x' j') (S (i+1) x' j') Q) Qx Qr r→WL P G (XS P G) H0 L (F i x j) (S i x j) Q) :
   ∀ {x:γ} {res:δ⊕ρ} (i0:Nat),A2 body done (l.drop i0) i0 x=some res→LQ Qx Qr res→∀ j,Ok j→WL P G (XS P G) H0 L (F i0 x j) (S i0 x j) Q:=by
 have key:∀ (k:List α) (i:Nat) (x:γ) (res:δ⊕ρ),l.drop i=k→A2 body done k i x=some res→LQ Qx Qr res→∀ j,Ok j→WL P G (XS P G) H0 L (F i x j) (S i x j) Q:=by
   intro k
   induction k with
   | nil =>
     intro i x res hd h hq j hj
     simp only [A2,Option.some.injEq] at h
     subst h
     exact hz i x j hj (List.drop_eq_nil_iff.1 hd) hq
   | cons y k ih =>
     intro i x res hd h hq j hj
     have hi:i < l.length:=by
       rcases Nat.lt_or_ge i l.length with h1 | h1
       · exact h1
       · rw [List.drop_eq_nil_of_le h1] at hd;cases hd
     have hy:l[i]?=some y:=by rw [← List.head?_drop,hd];rfl
     have hd2:l.drop (i+1)=k:=by rw [← List.tail_drop,hd];rfl
     obtain ⟨r,hb,h⟩:=Vu h
     refine hs i y x j r hj hy hi hb ?_
     cases r with
     | nx x'=>exact fun j' hj'=>ih (i+1) x' res hd2 h hq j' hj'
     | ex d=>simp only [Gs,Option.some.injEq] at h;subst h;exact hq
     | rt v=>simp only [Gs,Option.some.injEq] at h;subst h;exact hq
 intro x res i0 h hq j hj
 exact key _ i0 x res rfl h hq j hj
theorem jG {J:Type} {L:Code} {Q:AX→List AV→AS→Prop} {body:Nat→γ→Option (Lp γ δ ρ)} {done:γ→δ} (n:Nat) (F:Nat→γ→J→List AV) (S:Nat→γ→J→AS) (Ok:J→Prop) (Qx:δ→Prop) (Qr:ρ→Prop)
   (hz:∀ x j,Ok j→Qx (done x)→WL P G (XS P G) H0 L (F n x j) (S n x j) Q)
   (hs:∀ i x j r,Ok j→i < n→body i x=some r→RQ (fun x'=>∀ j',Ok j'→WL P G (XS P G) H0 L (F (i+1) x' j') (S (i+1) x' j') Q) Qx Qr r→WL P G (XS P G) H0 L (F i x j) (S i x j) Q) :
   ∀ {x:γ} {res:δ⊕ρ},PI body done n 0 x=some res→LQ Qx Qr res→∀ j,Ok j→WL P G (XS P G) H0 L (F 0 x j) (S 0 x j) Q:=by
 have key:∀ (d i:Nat) (x:γ) (res:δ⊕ρ),i+d=n→PI body done d i x=some res→LQ Qx Qr res→∀ j,Ok j→WL P G (XS P G) H0 L (F i x j) (S i x j) Q:=by
   intro d
   induction d with
   | zero =>
     intro i x res hl h hq j hj
     simp only [PI,Option.some.injEq] at h
     subst h
     have:i=n:=by simpa using hl
     subst this
     exact hz x j hj hq
   | succ d ih =>
     intro i x res hl h hq j hj
     obtain ⟨r,hb,h⟩:=Vu h
     refine hs i x j r hj (by omega) hb ?_
     cases r with
     | nx x'=>exact fun j' hj'=>ih (i+1) x' res (by omega) h hq j' hj'
     | ex d=>simp only [Gs,Option.some.injEq] at h;subst h;exact hq
     | rt v=>simp only [Gs,Option.some.injEq] at h;subst h;exact hq
 intro x res h hq j hj
 exact key n 0 x res (by simp) h hq j hj
end loops
end
end AI
