/- Part of a proof: see the last text. -/
import Derived.Test.YtkfplcngmiljaaaGreatDoorUue
set_option linter.unusedVariables false
set_option linter.unusedSimpArgs false
namespace AI
open Go Go.RowKit
abbrev XS (P:Program) (G:AG):Lk:=fun f args s r s'=>Sound P G (.call f args s r s')
def H0:Jh:=fun _ _=>none
theorem TC {P:Program} {G:AG} (h:P.follows .mixedOrders=true):Vh P G (XS P G) H0:=⟨h,fun _ _ _ _ _ h=>h,fun _ _ _ _ _ h=>by cases h⟩
def Pure (P:Program) (G:AG) (f:FuncId) (args:List AV) (v:AV):Prop:=∀ s,Sound P G (.call f args s (.ret v) s)
def rows {α:Type} (f:α→List AV) (l:List α):List AV:=l.flatMap f
theorem Qi {α:Type} {f:α→List AV} {k:Nat} (hf:∀ x,(f x).length=k) {l:List α} {i:Nat} {x:α} (h:l[i]?=some x):(rows f l).drop (i*k)=f x++rows f (l.drop (i+1)):=by
 induction l generalizing i with
 | nil=>simp at h
 | cons y l ih =>
   cases i with
   | zero=>simp at h;subst h;simp [rows]
   | succ i =>
     have:=ih (i:=i) (by simpa using h)
     have e:rows f (y::l)=f y++rows f l:=by simp [rows]
     rw [e,List.drop_append,hf y,show (i+1)*k - k=i*k by rw [Nat.add_mul];omega,List.drop_eq_nil_of_le (by rw [hf y,Nat.add_mul];omega),List.nil_append,this]
     simp
theorem LS {α:Type} {f:α→List AV} {k:Nat} (hf:∀ x,(f x).length=k) (l:List α):(rows f l).length=l.length*k:=by
 induction l with
 | nil=>simp [rows]
 | cons y l ih =>
   have e:rows f (y::l)=f y++rows f l:=by simp [rows]
   rw [e,List.length_append,hf y,ih,List.length_cons,Nat.add_mul];omega
theorem NA {α:Type} (f:α→List AV) (l m:List α):rows f (l++m)=rows f l++rows f m:=by simp [rows]
theorem FZ {α:Type} (f:α→List AV) (x:α) (m:List α):rows f (x::m)=f x++rows f m:=by simp [rows]
theorem TM {α:Type} {f:α→List AV} {l:List α} (h:∀ x∈l,AW (f x)=true):AW (rows f l)=true:=by
 have SI:∀ a b:List AV,AW a=true→AW b=true→AW (a++b)=true:=by
   intro a b ha hb
   induction a with
   | nil=>exact hb
   | cons x a ih =>
     simp only [AW,Bool.and_eq_true,List.cons_append] at ha ⊢
     exact ⟨ha.1,ih ha.2⟩
 induction l with
 | nil=>rfl
 | cons y l ih=>rw [FZ];exact SI _ _ (h y List.mem_cons_self) (ih fun x hx=>h x (List.mem_cons_of_mem _ hx))
theorem TD {P:Program} {α:Type} {f:α→List AV} {k:Nat} {t elem:TypeId} {e:TypeInfo} (hu:P.underlying t=some (.slice elem)) (he:P.info? elem=some e) (hk:e.size=k) (hf:∀ x,(f x).length=k) {own:Own} {l:List α} {i:Nat} {x:α} (h:l[i]?=some x) :
   B0 P t (.sl own l.length (rows f l)) (.sc (.int .i64 (i:Int)))=some (.el (f x++rows f (l.drop (i+1)))):=by
 have hi:=(List.getElem?_eq_some_iff.1 h).1
 have hn:J7 (.sc (.int .i64 (i:Int)))=some i:=by
   unfold J7
   simp
 unfold B0
 rw [hu,hn]
 simp only [he,hk,if_pos hi,Qi hf h]
theorem Zk {i:Nat} (h:i≤9223372036854775807):IntKind.i64.wrap (i:Int)=(i:Int):=by
 refine IntWalk.i64_in _ ?_
 omega
end AI
namespace AI
open Go Go.RowKit
section
variable {G:AG}
inductive NZ where
 | t (tmp sz:Nat)
 | b (id i sz:Nat)
 | l (tmp:Nat)
 | lb (id i:Nat)
def dO:AV→Bool
 | .sl .full n cs=>(match n with | 0=>(match cs with | []=>true | _=>false) | _=>false)
 | _=>false
def oQ (fr:List AV) (s:AS):NZ→Option (List AV×AS)
 | .t k sz=>(match fr[k]? with
   | some a=>(match dO a with
     | true=>some (fr.set k (.sl (.row s.nr sz) 0 []),s.tok)
     | false=>none)
   | none=>none)
 | .b id i sz=>(match look id s.h with
   | some (.cells cs)=>(match cs[i]? with
     | some a=>(match dO a with
       | true=>some (fr,⟨Zl id (.cells (cs.set i (.sl (.row s.nr sz) 0 []))) s.h,s.nx,(s.nr,0)::s.F,s.nr+1⟩)
       | false=>none)
     | none=>none)
   | _=>none)
 | .l k=>(match fr[k]? with
   | some a=>some (fr.set k (T5 a),s)
   | none=>none)
 | .lb id i=>(match look id s.h with
   | some (.cells cs)=>(match cs[i]? with
     | some a=>some (fr,⟨Zl id (.cells (cs.set i (T5 a))) s.h,s.nx,s.F,s.nr⟩)
     | none=>none)
   | _=>none)
def oA:List NZ→List AV→AS→Option (List AV×AS)
 | [],fr,s=>some (fr,s)
 | z::l,fr,s=>(match oQ fr s z with
   | some (fr,s)=>oA l fr s
   | none=>none)
def gP (G:AG) (fr:List AV) (s:AS) (fr2:List AV) (s2:AS):Prop:=∀ (cx:Cx) (w:World) (vs:List Value),St G cx w s→BD cx w fr vs→∃ cx2,Ext cx w cx2 w∧St G cx2 w s2∧BD cx2 w fr2 vs
theorem gP.refl {fr:List AV} {s:AS}:gP G fr s fr s:=fun cx w vs h1 h2=>⟨cx,Ext.refl _ _,h1,h2⟩
theorem gP.trans {fr fr2 fr3:List AV} {s s2 s3:AS} (h:gP G fr s fr2 s2) (k:gP G fr2 s2 fr3 s3):gP G fr s fr3 s3:=fun cx w vs h1 h2=>by
 obtain ⟨c2,x2,s2,r2⟩:=h cx w vs h1 h2
 obtain ⟨c3,x3,s3,r3⟩:=k c2 w vs s2 r2
 exact ⟨c3,x2.trans x3,s3,r3⟩
theorem VG {a:AV} (h:dO a=true) {c:Cx} {w:World} {v:Value} (hr:Rp c w a v) {r sz:Nat} (hl:r < c.rows.length):Rp c w (.sl (.row r sz) 0 []) v:=by
 unfold dO at h
 split at h
 · split at h
   · split at h
     · cases hr with
       | sl0 h0=>exact .sl0 ⟨h0,hl⟩
       | sl1 hn hc ho =>
         have:_=0:=ho
         subst this
         exact .sl0 ⟨rfl,hl⟩
     · cases h
   · cases h
 · cases h
theorem QK {a:AV} {c:Cx} {w:World} {v:Value} (hr:Rp c w a v):Rp c w (T5 a) v:=by
 cases hr with
 | sl0 _=>exact .sl0 trivial
 | sl1 hn hc ho=>exact .sl1 hn hc trivial
 | sc h=>exact .sc h
 | agg h=>exact .agg h
 | Br h=>exact .Br h
 | msl h1 h2=>exact .msl h1 h2
 | el h=>exact .el h
 | ptr h=>exact .ptr h
 | fn h1 h2=>exact .fn h1 h2
 | ifc h=>exact .ifc h
 | mp h=>exact .mp h
 | any h=>exact .any h
theorem BD.aY {c:Cx} {w:World} {as:List AV} {vs:List Value} (h:BD c w as vs) {i:Nat} {a b:AV} (ha:as[i]?=some a) (hb:∀ v,Rp c w a v→Rp c w b v):BD c w (as.set i b) vs:=by
 induction as generalizing vs i with
 | nil=>simp at ha
 | cons x as ih =>
   cases h with
   | cons h1 t =>
     cases i with
     | zero=>simp at ha;subst ha;exact .cons (hb _ h1) t
     | succ i=>exact .cons h1 (ih t (by simpa using ha))
theorem St.pM {c:Cx} {w:World} {s:AS} (h:St G c w s) {id:Nat} {b b2:AF} (hb:look id s.h=some b) (hk:∀ o,DM c w b o→DM c w b2 o):St G c w ⟨Zl id b2 s.h,s.nx,s.F,s.nr⟩ :=
 ⟨h.len,Mp h.desc,h.nodup,h.low,fun id' g b' h1 h2=>by
   rcases Mi h2 with ⟨rfl,rfl⟩ | ⟨_,h3⟩
   · obtain ⟨o,ho,hbo⟩:=h.box _ g b h1 hb
     exact ⟨o,ho,hk o hbo⟩
   · exact h.box id' g b' h1 h3,h.rlen,h.row,h.rfree,h.plow,h.blow,h.rdist,h.glob,h.bsz⟩
theorem kS {fr fr2:List AV} {s s2:AS} {z:NZ} (h:oQ fr s z=some (fr2,s2)):gP G fr s fr2 s2:=by
 intro cx w vs hs hr
 cases z with
 | t k sz =>
   simp only [oQ] at h
   split at h
   · rename_i a ha
     split at h
     · rename_i hn
       cases h
       obtain ⟨x,st⟩:=hs.tok
       refine ⟨_,x,st,(hr.mono x).aY ha (fun v hv=>VG hn hv ?_)⟩
       simp [hs.rlen]
     · cases h
   · cases h
 | b id i sz =>
   simp only [oQ] at h
   split at h
   · rename_i cs hb
     split at h
     · rename_i a ha
       split at h
       · rename_i hn
         cases h
         obtain ⟨x,st⟩:=hs.tok
         refine ⟨_,x,st.pM (b:=.cells cs) hb (fun o ho=>?_),hr.mono x⟩
         cases ho with
         | cells h1=>exact .cells (h1.aY ha (fun v hv=>VG hn hv (by simp [hs.rlen])))
       · cases h
     · cases h
   · cases h
 | l k =>
   simp only [oQ] at h
   split at h
   · rename_i a ha
     cases h
     exact ⟨cx,Ext.refl _ _,hs,hr.aY ha (fun v hv=>QK hv)⟩
   · cases h
 | lb id i =>
   simp only [oQ] at h
   split at h
   · rename_i cs hb
     split at h
     · rename_i a ha
       cases h
       refine ⟨cx,Ext.refl _ _,hs.pM (b:=.cells cs) hb (fun o ho=>?_),hr⟩
       cases ho with
       | cells h1=>exact .cells (h1.aY ha (fun v hv=>QK hv))
     · cases h
   · cases h
theorem X4:∀ {l:List NZ} {fr fr2:List AV} {s s2:AS},oA l fr s=some (fr2,s2)→gP G fr s fr2 s2:=by
 intro l
 induction l with
 | nil=>intro fr fr2 s s2 h;simp only [oA] at h;cases h;exact .refl
 | cons z l ih =>
   intro fr fr2 s s2 h
   simp only [oA] at h
   split at h
   · rename_i f1 s1 h1;exact (kS h1).trans (ih h)
   · cases h
end
end AI
namespace AI
open Go Go.RowKit
def uC:Value→Value→Bool
 | .string a,.string b=>BJ a.data.toList b.data.toList
 | .int k a,.int k' b=>(match sameKind k k' with | true=>Bs a b | false=>false)
 | a,b=>eJ a b
theorem nJ {a b:Value} (h:uC a b=true):a=b:=by
 unfold uC at h
 split at h
 · rename_i x y
   rw [O9,beq_iff_eq] at h
   have:x=y:=ByteArray.ext (Array.ext' h)
   rw [this]
 · split at h
   · rename_i hk
     rw [JL,beq_iff_eq] at h
     rw [No hk,h]
   · cases h
 · exact Vl h
def iF:Own→Own→Bool
 | .full,.full=>true
 | .lost,.lost=>true
 | _,_=>false
theorem Zh {a b:Own} (h:iF a b=true):a=b:=by cases a<;>cases b<;>first | rfl | cases h
mutual
def PX:AV→AV→Bool
 | .sc a,.sc b=>uC a b
 | .agg a,.agg b=>W1 a b
 | .Br a,.Br b=>W1 a b
 | .sl o n a,.sl p m b=>(match iF o p with
   | true=>(match Nat.beq n m with | true=>W1 a b | false=>false)
   | false=>false)
 | .ifc t a,.ifc u b=>(match Nat.beq t u with | true=>PX a b | false=>false)
 | _,_=>false
def W1:List AV→List AV→Bool
 | [],[]=>true
 | a::as,b::bs=>(match PX a b with | true=>W1 as bs | false=>false)
 | _,_=>false
end
mutual
theorem RW:∀ {a b:AV},PX a b=true→a=b
 | .sc a,b,h=>by
   cases b<;>first
     | (simp only [PX] at h;rw [nJ h])
     | (simp [PX] at h;done)
 | .agg a,b,h=>by
   cases b<;>first
     | (simp only [PX] at h;rw [Kd h])
     | (simp [PX] at h;done)
 | .Br a,b,h=>by
   cases b<;>first
     | (simp only [PX] at h;rw [Kd h])
     | (simp [PX] at h;done)
 | .sl o n a,b,h=>by
   cases b<;>first
     | (simp only [PX] at h
        split at h
        · rename_i h1
          split at h
          · rename_i h2;rw [Zh h1,beq_true h2,Kd h]
          · cases h
        · cases h)
     | (simp [PX] at h;done)
 | .ifc t a,b,h=>by
   cases b<;>first
     | (simp only [PX] at h
        split at h
        · rename_i h1;rw [beq_true h1,RW h]
        · cases h)
     | (simp [PX] at h;done)
 | .msl _ _ _,b,h=>by simp [PX] at h
 | .el _,b,h=>by simp [PX] at h
 | .ptr _ _,b,h=>by simp [PX] at h
 | .fn _ _ _,b,h=>by simp [PX] at h
 | .mp _,b,h=>by simp [PX] at h
 | .any,b,h=>by simp [PX] at h
theorem Kd:∀ {a b:List AV},W1 a b=true→a=b
 | [],b,h=>by cases b<;>first | rfl | (simp [W1] at h;done)
 | a::as,b,h=>by
   cases b<;>first
     | (simp [W1] at h;done)
     | (simp only [W1] at h
        split at h
        · rename_i h1;rw [RW h1,Kd h]
        · cases h)
end
structure BU where
 f:Nat
 args:List AV
 box:Option (List AV×List AV)
 v:AV
def Aw (P:Program) (G:AG) (e:BU):Prop:=match e.box with
 | none=>∀ s,Sound P G (.call e.f e.args s (.ret e.v) s)
 | some (cs,cs')=>∀ s id,s.get id=some (.cells cs)→Sound P G (.call e.f (.ptr id 0::e.args) s (.ret e.v) (s.put id (.cells cs')))
def Yo (id:Nat) (s:AS) (args:List AV) (e:BU):Option (List AV×List AV)→Option (CR×AS)
 | some (cs,cs')=>(match s.get id with
   | some (.cells ds)=>(match W1 ds.reverse cs.reverse with
     | true=>(match W1 args e.args with
       | true=>some (.ret e.v,s.put id (.cells cs'))
       | false=>none)
     | false=>none)
   | _=>none)
 | none=>none
def hit (args:List AV) (s:AS) (e:BU):Option (CR×AS) :=
 match args with
 | .ptr id 0::rest=>Yo id s rest e e.box
 | args=>(match e.box with
   | none=>(match W1 args.reverse e.args.reverse with
     | true=>some (.ret e.v,s)
     | false=>none)
   | some _=>none)
def find (f:Nat) (args:List AV) (s:AS):List BU→Option (CR×AS)
 | []=>none
 | e::l=>(match Nat.beq e.f f with
   | true=>(match hit args s e with
     | some r=>some r
     | none=>find f args s l)
   | false=>find f args s l)
theorem kE {P:Program} {G:AG} {args:List AV} {s s':AS} {e:BU} {r:CR} (he:Aw P G e) (h:hit args s e=some (r,s')):Sound P G (.call e.f args s r s'):=by
 unfold hit at h
 split at h
 · rename_i id rest
   unfold Aw at he
   cases hb:e.box with
   | none=>rw [hb] at h;cases h
   | some q =>
     obtain ⟨cs,cs'⟩:=q
     rw [hb] at h he
     simp only [Yo] at h
     split at h
     · rename_i ds hg
       split at h
       · rename_i h1
         split at h
         · rename_i h2
           cases h
           have e1:=List.reverse_inj.1 (Kd h1)
           have e2:=Kd h2
           subst e1
           rw [e2]
           exact he s id hg
         · cases h
       · cases h
     · cases h
 · unfold Aw at he
   cases hb:e.box with
   | some q=>rw [hb] at h;cases h
   | none =>
     rw [hb] at h he
     simp only at h
     split at h
     · rename_i h1
       cases h
       have e1:=List.reverse_inj.1 (Kd h1)
       rw [e1]
       exact he _
     · cases h
theorem dR {P:Program} {G:AG} {f:Nat} {args:List AV} {s s':AS} {l:List BU} {r:CR} (hl:∀ e∈l,Aw P G e) (h:find f args s l=some (r,s')):Sound P G (.call f args s r s'):=by
 induction l with
 | nil=>cases h
 | cons e l ih =>
   simp only [find] at h
   split at h
   · rename_i hf
     split at h
     · rename_i q hh
       cases h
       have:=kE (hl e List.mem_cons_self) hh
       rw [beq_true hf] at this
       exact this
     · exact ih (fun e he=>hl e (List.mem_cons_of_mem _ he)) h
   · exact ih (fun e he=>hl e (List.mem_cons_of_mem _ he)) h
def ZB (e:BU):Option Rs→Bool
 | some (.call (.ret v) s)=>(match KQ v with
   | true=>(match PX (I6 v) e.v with
     | true=>(match e.box with
       | none=>true
       | some (_,cs')=>(match s.get 0 with
         | some (.cells ds)=>(match EW ds with
           | true=>W1 (LG ds) cs'
           | false=>false)
         | _=>false))
     | false=>false)
   | false=>false)
 | _=>false
def MD (e:BU):Tk:=match e.box with
 | none=>.call e.f e.args s0
 | some (cs,_)=>.call e.f (.ptr 0 0::e.args) ⟨[(0,.cells cs)],1,[],0⟩
def O2 (e:BU):Bool:=AW e.args&&(match e.box with
 | none=>true
 | some (cs,_)=>AW cs)
theorem lU {P:Program} {G:AG} {X:PE} {H:Jh} (hg:Vh P G (XP X) H) (hG:∀ g cs,G g=some cs→AW cs=true) {n:Nat} {e:BU} (hp:O2 e=true) (h:ZB e (tG P G X H n (MD e))=true):Aw P G e:=by
 unfold O2 at hp
 rw [Bool.and_eq_true] at hp
 cases hr:tG P G X H n (MD e) with
 | none=>rw [hr] at h;cases h
 | some rs =>
   rw [hr] at h
   have hrt:=nL n _ _ hr
   cases rs with
   | code e fr s=>cases h
   | tr t fr s=>cases h
   | call c s =>
     cases c with
     | pan v=>cases h
     | ret v =>
       simp only [ZB] at h
       split at h
       · rename_i hb
         split at h
         · rename_i he
           have ev:=RW he
           unfold Aw
           cases hbx:e.box with
           | none =>
             intro s'
             unfold MD at hrt
             rw [hbx] at hrt
             have:=R5 hG (sound hg hrt) hp.1 hb s'
             rw [ev] at this
             exact this
           | some q =>
             obtain ⟨cs,cs'⟩:=q
             intro s' id hid
             unfold MD at hrt
             rw [hbx] at hrt h hp
             simp only at h hp
             split at h
             · rename_i ds hds
               split at h
               · rename_i hbd
                 have ec:=Kd h
                 have:=Tg hG (sound hg hrt) hds hp.1 hp.2 hb hbd s' id hid
                 rw [ev,ec] at this
                 exact this
               · cases h
             · cases h
         · cases h
       · cases h
theorem Ab.cons {P:Program} {G:AG} {e:BU} {l:List BU} (he:Aw P G e) (hl:∀ e∈l,Aw P G e):∀ e'∈e::l,Aw P G e':=fun e' h=>by
 rcases List.mem_cons.1 h with h | h
 · rw [h];exact he
 · exact hl e' h
end AI
namespace AI
open Go Go.RowKit
inductive Hn where
 | k
 | b (b:Bool)
 | i (z:Int)
 | w (v:AV)
 | a (v:AV) (s:AS)
 | m (s:AS)
 | l (v:AV)
 | s (s:AS)
 | c (v:AV) (s:AS)
 | o (v:AV)
 | z (c:Nat)
 | p (v:AV) (s:AS)
 | g (sz k:Nat) (cs:List AV)
 | u (v:AV) (pre:List (Nat×AF)) (tp:List (Nat×Nat)) (ups:List (Nat×AF)) (tu:List (Nat×Nat))
 | q (v:AV) (pre:List (Nat×AF)) (tp:List (Nat×Nat)) (ups:List (Nat×AF)) (tu:List (Nat×Nat))
 | n (l:List NZ)
 | x (b:AF) (v:AV)
 | y (b b2:AF)
 | lb (m:AF) (v:AV)
 | sb (m m2:AF)
 | mb (n:Nat) (m:AF)
 | za
 | cn (v:AV) (h:List (Nat×AF)) (dn:Nat) (F:List (Nat×Nat)) (dr:Nat)
inductive Cd where
 | eqb (B b:Bool)
 | eqi (X z:Int)
 | idx (t:TypeId) (a b v:AV)
 | bin (op:BinOp) (t:TypeId) (x y:Operand) (a b v:AV)
 | call (f:FuncId) (args:List AV) (s:AS) (v:AV)
 | SI (s:AS) (t tx:TypeId) (a b v:AV) (s1:AS)
 | ix (t:TypeId) (a b v:AV)
 | lk (s:AS) (t:TypeId) (a b:AV) (ok:Bool) (v:AV)
 | ms (s:AS) (t:TypeId) (a b v:AV) (s1:AS)
 | callS (f:FuncId) (args:List AV) (s:AS) (v:AV) (s1:AS)
 | ld (s:AS) (t:TypeId) (a v:AV)
 | st (s:AS) (t:TypeId) (a x:AV) (s1:AS)
 | mk (s:AS) (t:TypeId) (a b v:AV) (s1:AS)
 | sli (t:TypeId) (a:AV) (l h m:Option AV) (v:AV)
 | callP (f:FuncId) (args:List AV) (s:AS) (v:AV) (s1:AS)
 | pur (f:FuncId) (args:List AV) (v:AV)
 | W5 (t tx:TypeId) (own:Own) (n:Nat) (cs:List AV) (b:AV) (sz k:Nat) (cs2:List AV)
 | eqn (k n:Nat)
 | callU (f:FuncId) (args:List AV) (r:CR) (pre:List (Nat×AF)) (tp:List (Nat×Nat)) (ups:List (Nat×AF)) (tu:List (Nat×Nat))
 | eqx (a b:List (Option AF)) (c d:List (Option Nat))
 | lkB (b:AF) (t:TypeId) (k:AV) (ok:Bool) (v:AV)
 | msB (b:AF) (t:TypeId) (k v:AV) (b2:AF)
 | ldB (b:AF) (t:TypeId) (off:Nat) (v:AV)
 | stB (b:AF) (t:TypeId) (off:Nat) (x:AV) (b2:AF)
 | mkB (t:TypeId) (a x:AV) (n:Nat) (m:AF)
 | callN (f:FuncId) (args:List AV) (nx nr:Nat) (v:AV) (h:List (Nat×AF)) (dn:Nat) (F:List (Nat×Nat)) (dr:Nat)
def AS.Na (s:AS):List (Nat×AF)→AS
 | []=>s
 | e::l=>(s.put e.1 e.2).Na l
def AS.Lc (s:AS):List (Nat×Nat)→AS
 | []=>s
 | e::l=>(AS.mk s.h s.nx (Wb e.1 e.2 s.F) s.nr).Lc l
def OJ (s:AS):List (Nat×AF)→List (Option AF)
 | []=>[]
 | e::l=>s.get e.1::OJ s l
def L9:List (Nat×AF)→List (Option AF)
 | []=>[]
 | e::l=>some e.2::L9 l
def P5 (F:List (Nat×Nat)):List (Nat×Nat)→List (Option Nat)
 | []=>[]
 | e::l=>Cf e.1 F::P5 F l
def Nn:List (Nat×Nat)→List (Option Nat)
 | []=>[]
 | e::l=>some e.2::Nn l
def Cd.ok (P:Program) (G:AG):Cd→Prop
 | .eqb B b=>B=b
 | .eqi X z=>X=z
 | .idx t a b v=>B0 P t a b=some v
 | .bin op t x y a b v=>Gz P op t x y a b=some v
 | .call f args s v=>Sound P G (.call f args s (.ret v) s)
 | .SI s t tx a b v s1=>∃ v0,IJ P s t tx a b=some (v0,s1)∧∀ c w u,Rp c w v0 u→Rp c w v u
 | .ix t a b v=>GM P t a b=some v
 | .lk s t a b ok v=>EO P s t a b ok=some v
 | .ms s t a b v s1=>Ff P s t a b v=some s1
 | .callS f args s v s1=>Sound P G (.call f args s (.ret v) s1)
 | .ld s t a v=>FI P s t a=some v
 | .st s t a x s1=>GG P s t a x=some s1
 | .mk s t a b v s1=>Eh P s t a b=some (v,s1)
 | .sli t a l h m v=>IA P t a l h m=some v
 | .callP f args s v s1=>Sound P G (.call f args s (.pan v) s1)
 | .pur f args v=>∀ s,Sound P G (.call f args s (.ret v) s)
 | .W5 t tx own n cs b sz k cs2=>∀ s:AS,LW sz s.F n own=true→∃ cs0,IJ P s t tx (.sl own n cs) b=some (.sl (fZ s sz own) k cs0,s.to k own)∧∀ c w u o,Rp c w (.sl o k cs0) u→Rp c w (.sl o k cs2) u
 | .eqn k n=>k=n
 | .callU f args r pre tp ups tu=>∀ s:AS,OJ s pre=L9 pre→P5 s.F tp=Nn tp→Sound P G (.call f args s r ((s.Na ups).Lc tu))
 | .eqx a b c d=>a=b∧c=d
 | .lkB b t k ok v=>∀ (s:AS) (id:Nat),s.get id=some b→EO P s t (.mp id) k ok=some v
 | .msB b t k v b2=>∀ (s:AS) (id:Nat),s.get id=some b→Ff P s t (.mp id) k v=some (s.put id b2)
 | .ldB b t off v=>∀ (s:AS) (id:Nat),s.get id=some b→FI P s t (.ptr id off)=some v
 | .stB b t off x b2=>∀ (s:AS) (id:Nat),s.get id=some b→GG P s t (.ptr id off) x=some (s.put id b2)
 | .mkB t a x n m=>∀ s:AS,Eh P s t a x=some (.msl s.nx 0 n,s.new m)
 | .callN f args nx nr v h dn F dr=>∀ s:AS,s.nx=nx→s.nr=nr→Sound P G (.call f args s (.ret v) ⟨h++s.h,s.nx+dn,F++s.F,s.nr+dr⟩)
def KR (P:Program) (G:AG):List Cd→Prop
 | []=>True
 | c::l=>c.ok P G∧KR P G l
theorem KR.SI {P:Program} {G:AG} {l m:List Cd} (h:KR P G (l++m)):KR P G l∧KR P G m:=by
 induction l with
 | nil=>exact ⟨trivial,h⟩
 | cons c l ih=>exact ⟨⟨h.1,(ih h.2).1⟩,(ih h.2).2⟩
abbrev HO:=Option (AV×AS×List Hn×List Cd)
def GI (s1:Option AR) (hs:List Hn):HO:=match s1 with
 | some (.val v s)=>some (v,s,hs,[])
 | _=>none
def rX (P:Program) (op:BinOp) (t:TypeId) (x y:Operand) (a b:AV) (s:AS):List Hn→HO
 | .k::hs=>(match OV P op t x y a b with
   | some v=>some (v,s,hs,[])
   | none=>none)
 | .b c::hs=>(match OV P op t x y a b with
   | some (.sc (.bool B))=>some (.sc (.bool c),s,hs,[.eqb B c])
   | _=>none)
 | .i z::hs=>(match OV P op t x y a b with
   | some (.sc (.int k X))=>some (.sc (.int k z),s,hs,[.eqi X z])
   | _=>none)
 | .w v::hs=>some (v,s,hs,[.bin op t x y a b v])
 | _=>none
def tC (P:Program) (t:TypeId) (a b:AV) (s:AS):List Hn→HO
 | .k::hs=>(match B0 P t a b with
   | some v=>some (v,s,hs,[])
   | none=>none)
 | .w v::hs=>some (v,s,hs,[.idx t a b v])
 | _=>none
def Qw (s:AS) (r:Option AR):List Hn→HO
 | .w v::hs=>(match r with
   | some (.ent f args)=>some (v,s,hs,[.pur f args v])
   | _=>none)
 | .a v s1::hs=>(match r with
   | some (.ent f args)=>some (v,s1,hs,[.callS f args s v s1])
   | _=>none)
 | .u v pre tp ups tu::hs=>(match r with
   | some (.ent f args)=>some (v,(s.Na ups).Lc tu,hs,[.callU f args (.ret v) pre tp ups tu,.eqx (OJ s pre) (L9 pre) (P5 s.F tp) (Nn tp)])
   | _=>none)
 | .cn v h dn F dr::hs=>(match r with
   | some (.ent f args)=>some (v,⟨h++s.h,s.nx+dn,F++s.F,s.nr+dr⟩,hs,[.callN f args s.nx s.nr v h dn F dr])
   | _=>none)
 | _=>none
def j6 (s:AS) (t tx:TypeId) (a b:AV):List Hn→HO
 | .a v s1::hs=>some (v,s1,hs,[.SI s t tx a b v s1])
 | .g sz k cs2::hs=>(match a with
   | .sl .full n cs=>some (.sl (.row s.nr sz) k cs2,s.add k,hs,[.W5 t tx .full n cs b sz k cs2])
   | .sl (.row r z) n cs=>(match Cf r s.F with
     | some m=>(match Nat.beq z sz with
       | true=>some (.sl (.row r sz) k cs2,s.grow r k,hs,[.W5 t tx (.row r z) n cs b sz k cs2,.eqn m n])
       | false=>none)
     | none=>none)
   | _=>none)
 | _=>none
def pJ (P:Program) (t:TypeId) (a b:AV) (s:AS):List Hn→HO
 | .k::hs=>(match GM P t a b with
   | some v=>some (v,s,hs,[])
   | none=>none)
 | .w v::hs=>some (v,s,hs,[.ix t a b v])
 | _=>none
def gA (t:TypeId) (a b:AV) (ok:Bool) (s:AS):List Hn→HO
 | .w v::hs=>some (v,s,hs,[.lk s t a b ok v])
 | .x m v::hs=>(match a with
   | .mp id=>some (v,s,hs,[.lkB m t b ok v,.eqx [s.get id] [some m] [] []])
   | _=>none)
 | _=>none
def jR (t:TypeId) (a b v:AV) (s:AS):List Hn→HO
 | .m s1::hs=>some (.sc undef,s1,hs,[.ms s t a b v s1])
 | .y m m2::hs=>(match a with
   | .mp id=>some (.sc undef,s.put id m2,hs,[.msB m t b v m2,.eqx [s.get id] [some m] [] []])
   | _=>none)
 | _=>none
def XE (t:TypeId) (a:Option AV) (s:AS) (r:Option AR):List Hn→HO
 | .l v::hs=>(match a with
   | some a=>some (v,s,hs,[.ld s t a v])
   | none=>none)
 | .lb m v::hs=>(match a with
   | some (.ptr id off)=>some (v,s,hs,[.ldB m t off v,.eqx [s.get id] [some m] [] []])
   | _=>none)
 | hs=>GI r hs
def Uh (t:TypeId) (a x:Option AV) (s:AS) (r:Option AR):List Hn→HO
 | .s s1::hs=>(match a,x with
   | some a,some x=>some (.sc undef,s1,hs,[.st s t a x s1])
   | _,_=>none)
 | .sb m m2::hs=>(match a,x with
   | some (.ptr id off),some x=>some (.sc undef,s.put id m2,hs,[.stB m t off x m2,.eqx [s.get id] [some m] [] []])
   | _,_=>none)
 | hs=>GI r hs
def Yl (t:TypeId) (a x:Option AV) (s:AS) (r:Option AR):List Hn→HO
 | .c v s1::hs=>(match a,x with
   | some a,some x=>some (v,s1,hs,[.mk s t a x v s1])
   | _,_=>none)
 | .mb n m::hs=>(match a,x with
   | some a,some x=>some (.msl s.nx 0 n,s.new m,hs,[.mkB t a x n m])
   | _,_=>none)
 | hs=>GI r hs
def kM (t:TypeId) (a:Option AV) (l h m:Option (Option AV)) (s:AS) (r:Option AR):List Hn→HO
 | .o v::hs=>(match a,l,h,m with
   | some a,some l,some h,some m=>some (v,s,hs,[.sli t a l h m v])
   | _,_,_,_=>none)
 | hs=>GI r hs
def Y7 (P:Program) (G:AG) (fr:List AV) (s:AS) (o:Oper) (hs:List Hn):HO :=
 match o.op with
 | .binOp op t x y _=>(match AA G fr x with
   | some a=>(match AA G fr y with
     | some b=>rX P op t x y a b s hs
     | none=>none)
   | none=>none)
 | .indexAddr t x i=>(match AA G fr x with
   | some a=>(match AA G fr i with
     | some b=>tC P t a b s hs
     | none=>none)
   | none=>none)
 | .index t x i=>(match AA G fr x with
   | some a=>(match AA G fr i with
     | some b=>pJ P t a b s hs
     | none=>none)
   | none=>none)
 | .lookup t x k ok=>(match AA G fr x with
   | some a=>(match AA G fr k with
     | some b=>gA t a b ok s hs
     | none=>none)
   | none=>none)
 | .mapUpdate t m k x=>(match AA G fr m with
   | some a=>(match AA G fr k with
     | some b=>(match AA G fr x with
       | some v=>jR t a b v s hs
       | none=>none)
     | none=>none)
   | none=>none)
 | .load t x=>XE t (AP G fr x) s (Lh P G fr s o) hs
 | .store t x y=>Uh t (AP G fr x) (AP G fr y) s (Lh P G fr s o) hs
 | .makeSlice t x y=>Yl t (AP G fr x) (AP G fr y) s (Lh P G fr s o) hs
 | .slice t x lo hi mx=>kM t (AP G fr x) (R2 G fr lo) (R2 G fr hi) (R2 G fr mx) s (Lh P G fr s o) hs
 | .call cl=>(match cl.callee with
   | .value _=>Qw s (Lh P G fr s o) hs
   | .builtin .append=>(match cl.args.toList,cl.argTypes.toList with
     | [x,y],[t,tx]=>(match AA G fr x with
       | some a=>(match AA G fr y with
         | some b=>j6 s t tx a b hs
         | none=>none)
       | none=>none)
     | _,_=>none)
   | _=>GI (Lh P G fr s o) hs)
 | _=>GI (Lh P G fr s o) hs
def Tl (P:Program) (G:AG) (ops:Array Oper) (fr:List AV) (s:AS) (o:Oper) (hs:List Hn):HO :=
 match Bd ops fr o with
 | true=>Y7 P G fr s o hs
 | false=>some (.sc undef,s,hs,[])
section
variable {P:Program} {G:AG} {ops:Array Oper}
theorem MJ {r:Option AR} {hs hs':List Hn} {v:AV} {s:AS} {cd:List Cd} (h:GI r hs=some (v,s,hs',cd)):r=some (.val v s):=by
 unfold GI at h
 split at h
 · cases h;rfl
 · cases h
theorem Xa {t:TypeId} {a:Option AV} {r:Option AR} {hs hs':List Hn} {v:AV} {s s1:AS} {cd:List Cd} (h:XE t a s r hs=some (v,s1,hs',cd)) (hc:KR P G cd):(∃ a',a=some a'∧FI P s t a'=some v∧s1=s)∨GI r hs=some (v,s1,hs',cd):=by
 unfold XE at h
 split at h
 · split at h
   · cases h;exact .inl ⟨_,rfl,hc.1,rfl⟩
   · cases h
 · split at h
   · cases h;exact .inl ⟨_,rfl,hc.1 _ _ (List.cons.inj hc.2.1.1).1,rfl⟩
   · cases h
 · exact .inr h
theorem M8 {t:TypeId} {a x:Option AV} {r:Option AR} {hs hs':List Hn} {v:AV} {s s1:AS} {cd:List Cd} (h:Uh t a x s r hs=some (v,s1,hs',cd)) (hc:KR P G cd):(∃ a' x',a=some a'∧x=some x'∧GG P s t a' x'=some s1∧v=.sc undef)∨GI r hs=some (v,s1,hs',cd):=by
 unfold Uh at h
 split at h
 · split at h
   · cases h;exact .inl ⟨_,_,rfl,rfl,hc.1,rfl⟩
   · cases h
 · split at h
   · cases h;exact .inl ⟨_,_,rfl,rfl,hc.1 _ _ (List.cons.inj hc.2.1.1).1,rfl⟩
   · cases h
 · exact .inr h
theorem Xf {t:TypeId} {a x:Option AV} {r:Option AR} {hs hs':List Hn} {v:AV} {s s1:AS} {cd:List Cd} (h:Yl t a x s r hs=some (v,s1,hs',cd)) (hc:KR P G cd):(∃ a' x',a=some a'∧x=some x'∧Eh P s t a' x'=some (v,s1))∨GI r hs=some (v,s1,hs',cd):=by
 unfold Yl at h
 split at h
 · split at h
   · cases h;exact .inl ⟨_,_,rfl,rfl,hc.1⟩
   · cases h
 · split at h
   · cases h;exact .inl ⟨_,_,rfl,rfl,hc.1 _⟩
   · cases h
 · exact .inr h
theorem cF {t:TypeId} {a:Option AV} {l k m:Option (Option AV)} {r:Option AR} {hs hs':List Hn} {v:AV} {s s1:AS} {cd:List Cd} (h:kM t a l k m s r hs=some (v,s1,hs',cd)) (hc:KR P G cd):(∃ a' l' k' m',a=some a'∧l=some l'∧k=some k'∧m=some m'∧IA P t a' l' k' m'=some v∧s1=s)∨GI r hs=some (v,s1,hs',cd):=by
 unfold kM at h
 split at h
 · split at h
   · cases h;exact .inl ⟨_,_,_,_,rfl,rfl,rfl,rfl,hc.1,rfl⟩
   · cases h
 · exact .inr h
theorem iY {fr:List AV} {s s1:AS} {o:Oper} {hs hs':List Hn} {v:AV} {cd:List Cd} (hw:Bd ops fr o=true) (h:Y7 P G fr s o hs=some (v,s1,hs',cd)) (hc:KR P G cd):J P G (XS P G) H0 (.op ops o fr s (.ret v) s1):=by
 have plainC:GI (Lh P G fr s o) hs=some (v,s1,hs',cd)→J P G (XS P G) H0 (.op ops o fr s (.ret v) s1):=fun h=>by
   have:=MJ h
   rw [GR] at this
   exact .opVal hw this
 unfold Y7 at h
 split at h
 · rename_i op t x y z ho
   rw [Bh,Bh] at h
   split at h
   · rename_i a ha
     split at h
     · rename_i b hb
       have fin:∀ v',Gz P op t x y a b=some v'→s1=s→v=v'→J P G (XS P G) H0 (.op ops o fr s (.ret v) s1):=by
         intro v' h1 h2 h3
         subst h2 h3
         refine .opVal hw ?_
         unfold JA
         rw [ho]
         simp only [ha,hb,h1,Option.map_some]
       unfold rX at h
       rw [Kl] at h
       split at h
       · split at h
         · rename_i h1;cases h;exact fin _ h1 rfl rfl
         · cases h
       · split at h
         · rename_i h1;cases h
           have e:_=_:=hc.1
           subst e
           exact fin _ h1 rfl rfl
         · cases h
       · split at h
         · rename_i h1;cases h
           have e:_=_:=hc.1
           subst e
           exact fin _ h1 rfl rfl
         · cases h
       · cases h;exact fin _ hc.1 rfl rfl
       · cases h
     · cases h
   · cases h
 · rename_i t x i ho
   rw [Bh,Bh] at h
   split at h
   · rename_i a ha
     split at h
     · rename_i b hb
       have fin:∀ v',B0 P t a b=some v'→s1=s→v=v'→J P G (XS P G) H0 (.op ops o fr s (.ret v) s1):=by
         intro v' h1 h2 h3
         subst h2 h3
         refine .opVal hw ?_
         unfold JA
         rw [ho]
         simp only [ha,hb,h1,Option.map_some]
       unfold tC at h
       split at h
       · split at h
         · rename_i h1;cases h;exact fin _ h1 rfl rfl
         · cases h
       · cases h;exact fin _ hc.1 rfl rfl
       · cases h
     · cases h
   · cases h
 · rename_i t x i ho
   rw [Bh,Bh] at h
   split at h
   · rename_i a ha
     split at h
     · rename_i b hb
       have fin:∀ v',GM P t a b=some v'→s1=s→v=v'→J P G (XS P G) H0 (.op ops o fr s (.ret v) s1):=by
         intro v' h1 h2 h3
         subst h2 h3
         refine .opVal hw ?_
         unfold JA
         rw [ho]
         simp only [ha,hb,h1,Option.map_some]
       unfold pJ at h
       split at h
       · split at h
         · rename_i h1;cases h;exact fin _ h1 rfl rfl
         · cases h
       · cases h;exact fin _ hc.1 rfl rfl
       · cases h
     · cases h
   · cases h
 · rename_i t x k ok ho
   rw [Bh,Bh] at h
   split at h
   · rename_i a ha
     split at h
     · rename_i b hb
       have h1:EO P s t a b ok=some v∧s1=s:=by
         unfold gA at h
         split at h
         · cases h
           exact ⟨hc.1,rfl⟩
         · split at h
           · cases h
             refine ⟨hc.1 _ _ ?_,rfl⟩
             have h2:=hc.2.1.1
             simpa using h2
           · cases h
         · cases h
       obtain ⟨h1,rfl⟩:=h1
       refine .opVal hw ?_
       unfold JA
       rw [ho]
       simp only [ha,hb,h1,Option.map_some]
     · cases h
   · cases h
 · rename_i t m k x ho
   rw [Bh,Bh,Bh] at h
   split at h
   · rename_i a ha
     split at h
     · rename_i b hb
       split at h
       · rename_i x' hx
         have h1:Ff P s t a b x'=some s1∧v=.sc undef:=by
           unfold jR at h
           split at h
           · cases h
             exact ⟨hc.1,rfl⟩
           · split at h
             · cases h
               refine ⟨hc.1 _ _ ?_,rfl⟩
               have h2:=hc.2.1.1
               simpa using h2
             · cases h
           · cases h
         obtain ⟨h1,rfl⟩:=h1
         refine .opVal hw ?_
         unfold JA
         rw [ho]
         simp only [ha,hb,hx,h1,Option.map_some]
       · cases h
     · cases h
   · cases h
 · rename_i t x ho
   rcases Xa h hc with ⟨a,ha,h1,rfl⟩ | h1
   · refine .opVal hw ?_
     unfold JA
     rw [ho]
     simp only [ha,Option.bind_some,h1,Option.map_some]
   · exact plainC h1
 · rename_i t x y ho
   rcases M8 h hc with ⟨a,b,ha,hb,h1,rfl⟩ | h1
   · refine .opVal hw ?_
     unfold JA
     rw [ho]
     simp only [ha,hb,h1,Option.map_some]
   · exact plainC h1
 · rename_i t x y ho
   rcases Xf h hc with ⟨a,b,ha,hb,h1⟩ | h1
   · refine .opVal hw ?_
     unfold JA
     rw [ho]
     simp only [ha,hb,h1,Option.map_some]
   · exact plainC h1
 · rename_i t x lo hi mx ho
   rcases cF h hc with ⟨a,l,k,m,ha,hl,hk,hm,h1,rfl⟩ | h1
   · refine .opVal hw ?_
     unfold JA
     rw [ho]
     simp only [ha,hl,hk,hm,h1,Option.map_some]
   · exact plainC h1
 · rename_i cl ho
   split at h
   · unfold Qw at h
     split at h
     · split at h
       · rename_i h1
         cases h
         rw [GR] at h1
         exact .opCall hw h1 (.ext (hc.1 s))
       · cases h
     · split at h
       · rename_i h1
         cases h
         rw [GR] at h1
         exact .opCall hw h1 (.ext hc.1)
       · cases h
     · split at h
       · rename_i h1
         cases h
         rw [GR] at h1
         exact .opCall hw h1 (.ext (hc.1 s hc.2.1.1 hc.2.1.2))
       · cases h
     · split at h
       · rename_i h1
         cases h
         rw [GR] at h1
         exact .opCall hw h1 (.ext (hc.1 s rfl rfl))
       · cases h
     · cases h
   · rename_i hcl
     split at h
     · rename_i x y t tx hxs hts
       rw [Bh,Bh] at h
       split at h
       · rename_i a ha
         split at h
         · rename_i b hb
           have fin:∀ v0,IJ P s t tx a b=some (v0,s1)→(∀ c w u,Rp c w v0 u→Rp c w v u)→J P G (XS P G) H0 (.op ops o fr s (.ret v) s1):=by
             intro v0 h1 h2
             refine .opWeak (v:=v0) ?_ (.opVal hw ?_) h2
             · simp only [quiet,ho,hcl]
             · unfold JA
               rw [ho]
               simp only [K2,hcl,hxs,hts,ha,hb,h1,Option.map_some]
           unfold j6 at h
           split at h
           · cases h
             obtain ⟨v0,h1,h2⟩:=hc.1
             exact fin v0 h1 h2
           · split at h
             · cases h
               obtain ⟨cs0,h1,h2⟩:=hc.1 s rfl
               exact fin _ h1 (fun c w u=>h2 c w u _)
             · rename_i r z n cs
               split at h
               · rename_i m hm
                 split at h
                 · rename_i hz
                   have hz:=beq_true hz
                   subst hz
                   cases h
                   have e:m=n:=hc.2.1
                   subst e
                   obtain ⟨cs0,h1,h2⟩:=hc.1 s (by simp [LW,hm])
                   exact fin _ h1 (fun c w u=>h2 c w u _)
                 · cases h
               · cases h
             · cases h
           · cases h
         · cases h
       · cases h
     · cases h
   · exact plainC h
 · exact plainC h
theorem Ll {fr:List AV} {s s1:AS} {o:Oper} {hs hs':List Hn} {v:AV} {cd:List Cd} (h:Tl P G ops fr s o hs=some (v,s1,hs',cd)) (hc:KR P G cd):J P G (XS P G) H0 (.op ops o fr s (.ret v) s1):=by
 unfold Tl at h
 split at h
 · rename_i hw;exact iY hw h hc
 · rename_i hw;cases h;exact .opSkip hw
end
end AI
namespace AI
open Go Go.RowKit
def Ii (op:Op):Bool:=match op with
 | .call cl=>(match cl.callee with | .value _=>true | _=>false)
 | _=>false
def VJ:List Hn→Bool
 | .a _ _::_=>true
 | .u _ _ _ _ _::_=>true
 | .cn _ _ _ _ _::_=>true
 | _=>false
def Xh (P:Program) (G:AG) (ops:Array Oper) (fr:List AV) (s:AS) (o:Oper) (hs:List Hn):HO:=match Ii o.op with
 | true=>(match VJ hs with
   | true=>none
   | false=>Tl P G ops fr s o hs)
 | false=>Tl P G ops fr s o hs
theorem KM {P:Program} {G:AG} {ops:Array Oper} {fr:List AV} {s:AS} {o:Oper} {hs:List Hn} {r:AV×AS×List Hn×List Cd} (h:Xh P G ops fr s o hs=some r):Tl P G ops fr s o hs=some r∧(Ii o.op=true→VJ hs=false):=by
 unfold Xh at h
 split at h
 · split at h
   · cases h
   · rename_i h1;exact ⟨h,fun _=>h1⟩
 · rename_i h1;exact ⟨h,fun h2=>by rw [h1] at h2;cases h2⟩
abbrev HT:=Option (List Hn×List Cd×List (List AV×AS×AV)×List AV×AS)
def VR (cd:List Cd) (x:List AV×AS×AV):HT→HT
 | some (hs,cd',t,fr,s)=>some (hs,cd++cd',x::t,fr,s)
 | none=>none
def Xd (P:Program) (G:AG) (ops:Array Oper):List Oper→Nat→List Hn→List AV→AS→HT
 | [],_,hs,fr,s=>some (hs,[],[],fr,s)
 | o::l,q,hs,fr,s=>(match AY o.op with
   | true=>VR [] (fr,s,Gs ops fr o q) (Xd P G ops l (q+1) hs (Ho fr o.dst (Gs ops fr o q)) s)
   | false=>(match Xh P G ops fr s o hs with
     | some (v,s1,hs1,cd)=>VR cd (fr,s,v) (Xd P G ops l q hs1 (Ho fr o.dst v) s1)
     | none=>none))
def rK (q0:Nat):Option AV→Bool
 | some (.el _)=>true
 | some (.ptr id _)=>Nat.blt id q0
 | _=>false
def rL (q0:Nat):Option AV→Bool
 | some (.ptr id _)=>Nat.ble q0 id
 | _=>false
def tO:Option AV→Bool
 | some (.sl _ _ _)=>true
 | some (.sc (.string _))=>true
 | _=>false
def indep (G:AG) (q0:Nat) (fr:List AV) (o:Oper):Bool:=match o.op with
 | .load _ a=>rK q0 (AA G fr a)
 | .lookup ..=>false
 | .store _ a _=>rL q0 (AA G fr a)
 | .call cl=>(match cl.callee with
   | .value _=>true
   | .builtin .len=>(match cl.args.toList with
     | [x]=>tO (AA G fr x)
     | _=>false)
   | _=>quiet o.op)
 | .alloc _=>true
 | op=>quiet op
def GF (G:AG) (ops:Array Oper) (q0:Nat):List Oper→List (List AV×AS×AV)→Bool
 | o::os,t::ts=>(match Bd ops t.1 o with
   | false=>GF G ops q0 os ts
   | true=>(match indep G q0 t.1 o with
     | true=>GF G ops q0 os ts
     | false=>false))
 | _,_=>true
def Tw (q0:Nat) (s s':AS):Prop:=∀ id,id < q0→s'.get id=s.get id
theorem E8 {id id':Nat} {b:AF} (h:id'≠id):∀ (l:List (Nat×AF)),look id' (Zl id b l)=look id' l
 | []=>rfl
 | e::l=>by
   simp only [Zl]
   split
   · rename_i hb
     have hb:=beq_true hb
     simp only [look]
     have h1:Nat.beq id id'=false:=by cases hq:Nat.beq id id' with
       | true=>exact absurd (beq_true hq).symm h
       | false=>rfl
     rw [hb,h1]
   · simp only [look,E8 h l]
section
variable {P:Program} {G:AG} {ops:Array Oper}
theorem bY {q0:Nat} {fr:List AV} {s s1:AS} {o:Oper} {hs hs':List Hn} {v:AV} {cd:List Cd} (h:Tl P G ops fr s o hs=some (v,s1,hs',cd)) (hA:Ii o.op=true→VJ hs=false) (hi:Bd ops fr o=true→indep G q0 fr o=true) (hc:KR P G cd) (ha:AY o.op=false):Tw q0 s s1:=by
 intro id hid
 have hj:=Ll h hc
 cases hq:quiet o.op with
 | true=>rw [(EE hq hj).1]
 | false =>
   unfold Tl at h
   split at h
   · rename_i hw
     have hi:=hi hw
     unfold indep at hi
     split at hi
     · rename_i t a ho;rw [ho] at hq;cases hq
     · cases hi
     · rename_i t a x ho
       unfold Y7 at h
       rw [ho] at h
       simp only at h
       have h1:∃ a' x',AP G fr a=some a'∧AP G fr x=some x'∧GG P s t a' x'=some s1:=by
         rcases M8 h hc with ⟨a',x',h2,h3,h4,_⟩ | h2
         · exact ⟨a',x',h2,h3,h4⟩
         · have h1:=MJ h2
           rw [GR] at h1
           unfold JA at h1
           rw [ho] at h1
           simp only at h1
           split at h1
           · rename_i a' x' ha' hx'
             obtain ⟨s',hst,he⟩:=map_some h1
             injection he with he1 he2
             subst he2
             exact ⟨a',x',ha',hx',hst⟩
           · cases h1
       rw [Bh] at hi
       obtain ⟨a',x',ha',hx',hst⟩:=h1
       rw [ha'] at hi
       unfold rL at hi
       split at hi
       · rename_i id' off heq
         cases heq
         unfold GG at hst
         split at hst
         · rename_i i id2 off2 hi2 heq2
           cases heq2
           split at hst
           · split at hst
             · cases hst
               have:=Nat.le_of_ble_eq_true hi
               exact E8 (by omega) _
             · cases hst
           · cases hst
         · cases hst
       · cases hi
     · rename_i cl ho
       split at hi
       · rename_i f hcl
         unfold Y7 at h
         rw [ho] at h
         simp only [hcl] at h
         unfold Qw at h
         split at h
         · split at h
           · cases h;rfl
           · cases h
         · have:=hA (by rw [ho];simp [Ii,hcl])
           simp [VJ] at this
         · have:=hA (by rw [ho];simp [Ii,hcl])
           simp [VJ] at this
         · have:=hA (by rw [ho];simp [Ii,hcl])
           simp [VJ] at this
         · cases h
       · rename_i hcl
         rw [ho] at hq
         simp [quiet,hcl] at hq
       · rw [ho] at hq;rw [ho,hq] at hi;cases hi
     · rename_i e ho;rw [ho] at ha;cases ha
     · rw [hq] at hi;cases hi
   · cases h;rfl
theorem Tw.refl (q0:Nat) (s:AS):Tw q0 s s:=fun _ _=>rfl
theorem Tw.trans {q0:Nat} {a b c:AS} (h:Tw q0 a b) (k:Tw q0 b c):Tw q0 a c:=fun id hid=>(k id hid).trans (h id hid)
theorem kK {q0:Nat} {l:List Oper} {q:Nat} {hs hs':List Hn} {fr fr':List AV} {s s':AS} {cd:List Cd} {t:List (List AV×AS×AV)} (h:Xd P G ops l q hs fr s=some (hs',cd,t,fr',s')) (hc:KR P G cd) (hi:GF G ops q0 l t=true) :
   I5 P G (XS P G) H0 ops q l fr s t fr' s'∧(∀ x∈t,Tw q0 s x.2.1)∧Tw q0 s s':=by
 induction l generalizing q hs fr s cd t with
 | nil=>simp only [Xd] at h;cases h;exact ⟨.nil,(fun x hx=>by cases hx),Tw.refl _ _⟩
 | cons o l ih =>
   simp only [Xd] at h
   cases ha:AY o.op with
   | true =>
     rw [ha] at h
     simp only at h
     unfold VR at h
     split at h
     · rename_i hs2 cd2 t2 fr2 s2 h2
       cases h
       have hi2:GF G ops q0 l t2=true:=by
         simp only [GF] at hi
         split at hi
         · exact hi
         · split at hi
           · exact hi
           · cases hi
       obtain ⟨k1,k2,k3⟩:=ih h2 (hc.SI).2 hi2
       refine ⟨.alloc ha k1,fun x hx=>?_,k3⟩
       rcases List.mem_cons.1 hx with rfl | hx
       · exact Tw.refl _ _
       · exact k2 x hx
     · cases h
   | false =>
     rw [ha] at h
     simp only at h
     split at h
     · rename_i v s1 hs1 cd1 h1
       unfold VR at h
       split at h
       · rename_i hs2 cd2 t2 fr2 s2 h2
         cases h
         obtain ⟨c1,c2⟩:=hc.SI
         have hi1:Bd ops fr o=true→indep G q0 fr o=true:=by
           intro hw
           simp only [GF,hw] at hi
           split at hi
           · assumption
           · cases hi
         have hi2:GF G ops q0 l t2=true:=by
           simp only [GF] at hi
           split at hi
           · exact hi
           · split at hi
             · exact hi
             · cases hi
         have hf:=bY (KM h1).1 (KM h1).2 hi1 c1 ha
         obtain ⟨k1,k2,k3⟩:=ih h2 c2 hi2
         refine ⟨.cons ha (Ll (KM h1).1 c1) k1,fun x hx=>?_,hf.trans k3⟩
         rcases List.mem_cons.1 hx with rfl | hx
         · exact Tw.refl _ _
         · exact hf.trans (k2 x hx)
       · cases h
     · cases h
theorem Wh {q0:Nat} {os:List Oper} {ts:List (List AV×AS×AV)} (h:GF G ops q0 os ts=true) {i:Nat} {o:Oper} {x:List AV×AS×AV} (ho:os[i]?=some o) (hx:ts[i]?=some x) (hw:Bd ops x.1 o=true):indep G q0 x.1 o=true:=by
 induction os generalizing ts i with
 | nil=>simp at ho
 | cons y os ih =>
   cases ts with
   | nil=>simp at hx
   | cons t ts =>
     simp only [GF] at h
     cases i with
     | zero =>
       simp at ho hx;subst ho hx
       rw [hw] at h
       simp only at h
       split at h
       · assumption
       · cases h
     | succ i =>
       have h2:GF G ops q0 os ts=true:=by
         split at h
         · exact h
         · split at h
           · exact h
           · cases h
       exact ih h2 (by simpa using ho) (by simpa using hx)
theorem YH {q0:Nat} {fr:List AV} {s0 s s2:AS} {o:Oper} {v:AV} (hq:quiet o.op=true) (hr:reads o.op=true) (hi:indep G q0 fr o=true) (h1:Tw q0 s0 s) (h2:Tw q0 s0 s2) (h:JA P G fr s o=some (.val v s)):JA P G fr s2 o=some (.val v s2):=by
 unfold indep at hi
 split at hi
 · rename_i t a ho
   rw [Bh] at hi
   unfold JA at h ⊢
   rw [ho] at h ⊢
   simp only at h ⊢
   obtain ⟨v',h3,h4⟩:=map_some h
   injection h4 with h4
   subst h4
   obtain ⟨b,h5,h6⟩:=bind_some h3
   rw [h5] at hi ⊢
   unfold rK at hi
   split at hi
   · rename_i heq;cases heq
     simp only [Option.bind_some]
     rw [show FI P s2 t (.el _)=FI P s t (.el _) from rfl,h6];rfl
   · rename_i id off heq;cases heq
     have hid:id < q0:=Nat.le_of_ble_eq_true hi
     have:FI P s2 t (.ptr id off)=FI P s t (.ptr id off):=by
       simp only [FI]
       rw [h2 id hid,h1 id hid]
     simp only [Option.bind_some]
     rw [this,h6];rfl
   · cases hi
 · cases hi
 · rename_i t a x ho;rw [ho] at hq;cases hq
 · rename_i cl ho
   split at hi
   · rename_i f hcl;rw [ho] at hq;simp [quiet,hcl] at hq
   · rename_i hcl
     unfold JA at h ⊢
     rw [ho] at h ⊢
     simp only [K2,hcl] at h ⊢
     split at hi
     · rename_i x hx
       rw [hx] at h ⊢
       cases ht:cl.argTypes.toList with
       | nil=>rw [ht] at h;cases h
       | cons t1 ts =>
         cases ts with
         | cons _ _=>rw [ht] at h;cases h
         | nil =>
           rw [ht] at h
           simp only at h ⊢
           obtain ⟨v',h3,h4⟩:=map_some h
           injection h4 with h4
           subst h4
           obtain ⟨b,h5,h6⟩:=bind_some h3
           rw [Bh,h5] at hi
           rw [h5]
           simp only [Option.bind_some]
           have:NN P s2 t1 b=NN P s t1 b:=by
             unfold tO at hi
             split at hi
             · rename_i heq;cases heq;unfold NN;split<;>first | rfl | (simp_all;done)
             · rename_i heq;cases heq;unfold NN;split<;>first | rfl | (simp_all;done)
             · cases hi
           rw [this,h6];rfl
     · cases hi
   · rename_i hn1 hn2
     rw [ho] at hr
     unfold reads at hr
     simp only at hr
     first
       | (cases hr;done)
       | (split at hr
          · rename_i hcl;exact absurd hcl hn2
          · cases hr)
 · rename_i e ho;rw [ho] at hq;cases hq
 · rename_i hn1 hn2 hn3 hn4 hn5
   exfalso
   unfold reads at hr
   split at hr
   · rename_i ho;exact hn1 _ _ ho
   · rename_i ho;exact hn2 _ _ _ _ ho
   · rename_i ho;exact hn4 _ ho
   · cases hr
theorem Zi {id:Nat} {fr fr':List AV} {s s':AS} {r:List AF} {t:List (List AV×AS×AV)} {hs hs':List Hn} {cd:List Cd} (hord:Hv ops=true) (hr:ZQ P ops.toList=some r) (h:Xd P G ops ops.toList s.nx hs fr (s.hold r)=some (hs',cd,t,fr',s')) (hc:KR P G cd) (hi:GF G ops s.nx ops.toList t=true) (hst1:KN P ops t s' s.nx r=true):J P G (XS P G) H0 (.code (.region id ops true) fr s .normal fr' s'):=by
 obtain ⟨htr,hfar,hfar'⟩:=kK h hc hi
 have hlen:t.length=ops.size:=by rw [htr.len,Array.length_toList]
 have hfk:∀ k,Tw s.nx (s.hold r) (Cg t s' k):=by
   intro k
   unfold Cg
   split
   · rename_i x hx;exact hfar x (List.mem_of_getElem? hx)
   · exact hfar'
 obtain ⟨h0,hat⟩:=htr.at
 have hdst:∀ i o,ops[i]?=some o→Bu ops i=o.dst:=fun i o ho=>by unfold Bu;rw [ho];rfl
 obtain ⟨hfin,hfrs⟩:=htr.Pj (Bu ops) (En t) fr 0 rfl (fun i o ho=>by rw [Nat.zero_add];exact hdst i o (by rw [← Array.getElem?_toList];exact ho)) (fun i=>.inl (by rw [Nat.zero_add]))
 rw [Nat.zero_add,Array.length_toList] at hfin
 have hall:∀ (i:Nat) (o:Oper),ops[i]?=some o→AY o.op=false→J P G (XS P G) H0 (.op ops o (FX fr (Bu ops) (En t) (fun _=>true) i) (Cg t s' i) (.ret (En t i)) (Cg t s' (i+1))):=by
   intro i o ho hna
   obtain ⟨fi,h1,h2⟩:=hat i o (A2 ho)
   have:=hfrs i _ h1
   simp only [Nat.zero_add] at this
   rcases h2 with ⟨_,h2⟩ | ⟨h2,_⟩
   · rw [← this]
     exact h2
   · rw [hna] at h2;cases h2
 have hallA:∀ (i:Nat) (o:Oper),ops[i]?=some o→AY o.op=true→Cg t s' (i+1)=Cg t s' i∧En t i=Gs ops (FX fr (Bu ops) (En t) (fun _=>true) i) o (s.nx+rk ops i):=by
   intro i o ho hya
   obtain ⟨fi,h1,h2⟩:=hat i o (A2 ho)
   have:=hfrs i _ h1
   simp only [Nat.zero_add] at this
   rcases h2 with ⟨h2,_⟩ | ⟨_,h2⟩
   · rw [hya] at h2;cases h2
   · rw [← this]
     exact h2
 have hna:∀ o:Oper,quiet o.op=true→AY o.op=false:=by
   intro o hq
   cases hya:AY o.op with
   | false=>rfl
   | true=>obtain ⟨e,he⟩:=ET hya;rw [Hp he] at hq;cases hq
 have hnl:∀ o:Oper,calm o.op=false→AY o.op=false:=by
   intro o hq
   cases hya:AY o.op with
   | false=>rfl
   | true=>unfold calm at hq;rw [hya] at hq;cases hq
 have hsn:Cg t s' ops.size=s':=by
   unfold Cg
   rw [List.getElem?_eq_none (by omega)]
 have hsk:∀ k,k≤ops.size→(t.map (fun x=>x.2.1)++[s'])[k]?=some (Cg t s' k):=by
   intro k hk
   unfold Cg
   by_cases hkt:k < t.length
   · rw [List.getElem?_append_left (by simpa using hkt),List.getElem?_map,List.getElem?_eq_getElem hkt];rfl
   · have:k=t.length:=by omega
     subst this
     rw [List.getElem?_append_right (by simp)]
     simp
 have hloud:∀ l,l∈Fl ops.toList 0→Nb ops l:=by
   intro l hl
   obtain ⟨j,o',e,h5,h6⟩:=Mc hl
   rw [Nat.zero_add] at e
   subst e
   exact ⟨o',by rw [← Array.getElem?_toList];exact h5,h6⟩
 have key:=J.draw (P:=P) (G:=G) (X:=XS P G) (H:=H0) (id:=id) (f0:=fr) (s0:=s) r (En t) (Cg t s') h0 hord (fun i o ho hl=>hall i o ho (hnl o hl)) (fun i o ho hq=>by
   obtain ⟨h1,h2⟩:=EE hq (hall i o ho (hna o hq))
   refine ⟨h1,?_⟩
   rcases h2 with h2 | ⟨hw,h2⟩
   · exact .inl h2
   · refine .inr ⟨hw,fun k hk hwin=>?_⟩
     cases hrd:reads o.op with
     | false=>exact Jr hq hrd h2 _
     | true =>
       obtain ⟨fi,hti,_⟩:=hat i o (A2 ho)
       have hfi:=hfrs i _ hti
       simp only [Nat.zero_add] at hfi
       have hin:=Wh hi (A2 ho) hti (by rw [hfi];exact hw)
       rw [hfi] at hin
       exact YH hq hrd hin (hfk i) (hfk k) h2) (fun i o e ho he=>by
   have hya:AY o.op=true:=by rw [he];rfl
   obtain ⟨h1,h2⟩:=hallA i o ho hya
   refine ⟨h1,?_⟩
   have hrk:rk ops i < r.length:=by
     rw [Vm hr]
     exact Rc (A2 ho) hya (by rw [Array.length_toList];exact (Array.getElem?_eq_some_iff.1 ho).1)
   cases hw:Bd ops (FX fr (Bu ops) (En t) (fun _=>true) i) o with
   | false=>unfold Gs at h2;rw [hw] at h2;exact .inl ⟨rfl,h2⟩
   | true =>
     unfold Gs at h2;rw [hw] at h2
     obtain ⟨fi,hti,_⟩:=hat i o (A2 ho)
     have hfi:=hfrs i _ hti
     simp only [Nat.zero_add] at hfi
     have hal:Kq P ops (FE ops.toList []) (Fl ops.toList 0) (t.map (·.2.1)++[s']) ops.toList t 0 s.nx=true:=by
       unfold KN at hst1
       split at hst1
       · simp at hrk
       · exact hst1
     obtain ⟨z,hz,hbx⟩:=QU hal (A2 ho) hti he (by rw [hfi];exact hw)
     rw [Nat.zero_add] at hbx
     exact .inr ⟨rfl,z,hz,hrk,h2,fun k hk hwin=>QW hbx (hsk k hk) (by rw [Nat.zero_add];exact Q4 hloud hwin)⟩)
 rw [← hfin,hsn] at key
 exact key
end
end AI
namespace AI
open Go Go.RowKit
def V3 (P:Program) (G:AG) (ops:Array Oper) (c:Nat):List Oper→Nat→List Hn→List AV→AS→HT
 | [],_,hs,fr,s=>some (hs,[],[],fr,s)
 | o::l,i,hs,fr,s=>(match (match Nat.beq i c with
     | true=>Tl P G ops fr s o hs
     | false=>Xh P G ops fr s o hs) with
   | some (v,s1,hs1,cd)=>VR cd (fr,s,v) (V3 P G ops c l (i+1) hs1 (Ho fr o.dst v) s1)
   | none=>none)
def LI (ms:List Nat) (c:Nat):List Oper→Nat→Bool
 | [],_=>true
 | o::l,i=>(match Nat.beq i c with
   | true=>!calm o.op
   | false=>(match Ii o.op with
     | true=>Nat.blt i c
     | false=>quiet o.op&&(!reads o.op||(Nat.blt i c&&MF ms c i))))&&LI ms c l (i+1)
section
variable {P:Program} {G:AG} {ops:Array Oper}
theorem O6 {ms:List Nat} {c:Nat}:∀ {l:List Oper} {i j:Nat} {o:Oper},LI ms c l i=true→l[j]?=some o→(i+j=c→calm o.op=false)∧(i+j≠c→(Ii o.op=true∧i+j < c)∨(quiet o.op=true∧(reads o.op=true→i+j < c∧MF ms c (i+j)=true))):=by
 intro l
 induction l with
 | nil=>intro i j o h ho;simp at ho
 | cons x l ih =>
   intro i j o h ho
   simp only [LI,Bool.and_eq_true] at h
   cases j with
   | zero =>
     simp at ho;subst ho
     have h1:=h.1
     split at h1
     · rename_i hb
       have:=Nat.eq_of_beq_eq_true hb
       exact ⟨fun _=>by simpa using h1,fun hn=>absurd this hn⟩
     · rename_i hb
       have:=Nat.ne_of_beq_eq_false hb
       refine ⟨fun hn=>absurd hn this,fun _=>?_⟩
       split at h1
       · rename_i hv
         exact .inl ⟨hv,Nat.le_of_ble_eq_true h1⟩
       · simp only [Bool.and_eq_true,Bool.or_eq_true,Bool.not_eq_true'] at h1
         refine .inr ⟨h1.1,fun hr=>?_⟩
         rcases h1.2 with h2 | h2
         · rw [hr] at h2;cases h2
         · exact ⟨Nat.le_of_ble_eq_true h2.1,h2.2⟩
   | succ j =>
     have:=ih (i:=i+1) (j:=j) h.2 (by simpa using ho)
     rw [show i+(j+1)=i+1+j by omega]
     exact this
theorem Nt {ms:List Nat} {c:Nat} {l:List Oper} {i j:Nat} {o:Oper} (hl:LI ms c l i=true) (hj:l[j]?=some o):AY o.op=false:=by
 have ho:=O6 hl hj
 cases ha:AY o.op with
 | false=>rfl
 | true =>
   obtain ⟨e,he⟩:=ET ha
   by_cases hic:i+j=c
   · have:=ho.1 hic;unfold calm at this;rw [ha] at this;simp at this
   · rcases ho.2 hic with ⟨h1,_⟩ | ⟨h1,_⟩
     · rw [he] at h1;cases h1
     · rw [Hp he] at h1;cases h1
theorem c6 {fr:List AV} {s s1:AS} {o:Oper} {hs hs':List Hn} {v:AV} {cd:List Cd} (h:Tl P G ops fr s o hs=some (v,s1,hs',cd)) (hv:Ii o.op=true) (hA:VJ hs=false):s1=s:=by
 unfold Tl at h
 split at h
 · unfold Ii at hv
   split at hv
   · rename_i cl ho
     split at hv
     · rename_i f hcl
       unfold Y7 at h
       rw [ho] at h
       simp only [hcl] at h
       unfold Qw at h
       split at h
       · split at h
         · cases h;rfl
         · cases h
       · simp [VJ] at hA
       · simp [VJ] at hA
       · simp [VJ] at hA
       · cases h
     · cases hv
   · cases hv
 · cases h;rfl
theorem cL {c q:Nat} {ms:List Nat}:∀ {l:List Oper} {i:Nat} {hs hs':List Hn} {fr fr':List AV} {s s':AS} {cd:List Cd} {t:List (List AV×AS×AV)},V3 P G ops c l i hs fr s=some (hs',cd,t,fr',s')→KR P G cd→LI ms c l i=true→I5 P G (XS P G) H0 ops q l fr s t fr' s'∧∀ j,j≤l.length→i+j≤c→Cg t s' j=s:=by
 intro l
 induction l with
 | nil =>
   intro i hs hs' fr fr' s s' cd t h hc hl;simp only [V3] at h;cases h
   exact ⟨.nil,fun j hj _=>by rfl⟩
 | cons o l ih =>
   intro i hs hs' fr fr' s s' cd t h hc hl
   simp only [V3] at h
   split at h
   · rename_i v s1 hs1 cd1 h1
     unfold VR at h
     split at h
     · rename_i hs2 cd2 t2 fr2 s2 h2
       cases h
       obtain ⟨c1,c2⟩:=hc.SI
       have ho:=O6 (j:=0) hl rfl
       have hna:AY o.op=false:=Nt (j:=0) hl rfl
       have hl2:LI ms c l (i+1)=true:=by
         simp only [LI,Bool.and_eq_true] at hl;exact hl.2
       have h3:Tl P G ops fr s o hs=some (v,s1,hs1,cd1):=by
         split at h1
         · exact h1
         · exact (KM h1).1
       have hj:=Ll h3 c1
       obtain ⟨k1,k2⟩:=ih h2 c2 hl2
       refine ⟨.cons hna hj k1,fun j hjl hjc=>?_⟩
       cases j with
       | zero=>rfl
       | succ j =>
         have e1:Cg ((fr,s,v)::t2) s' (j+1)=Cg t2 s' j:=by unfold Cg;simp
         rw [e1,k2 j (by simpa using hjl) (by omega)]
         have hic:i+0≠c:=by omega
         rcases ho.2 hic with ⟨hv,_⟩ | ⟨hq,_⟩
         · split at h1
           · rename_i hb;have:=Nat.eq_of_beq_eq_true hb;omega
           · exact c6 h3 hv ((KM h1).2 hv)
         · exact (EE hq hj).1
     · cases h
   · cases h
theorem WB {id c:Nat} {fr fr':List AV} {s s':AS} {t:List (List AV×AS×AV)} {hs hs':List Hn} {cd:List Cd} (hord:Hv ops=true) (hcs:Nat.blt c ops.size=true) (hl:LI (FE ops.toList []) c ops.toList 0=true) (h:V3 P G ops c ops.toList 0 hs fr s=some (hs',cd,t,fr',s')) (hc:KR P G cd):J P G (XS P G) H0 (.code (.region id ops true) fr s .normal fr' s'):=by
 have hcl:c < ops.size:=Nat.le_of_ble_eq_true hcs
 obtain ⟨htr,hsm⟩:=cL (q:=s.nx) h hc hl
 have hlen:t.length=ops.size:=by rw [htr.len,Array.length_toList]
 obtain ⟨h0,hat⟩:=htr.at
 have hdst:∀ i o,ops[i]?=some o→Bu ops i=o.dst:=fun i o ho=>by unfold Bu;rw [ho];rfl
 obtain ⟨hfin,hfrs⟩:=htr.Pj (Bu ops) (En t) fr 0 rfl (fun i o ho=>by rw [Nat.zero_add];exact hdst i o (by rw [← Array.getElem?_toList];exact ho)) (fun i=>.inl (by rw [Nat.zero_add]))
 rw [Nat.zero_add,Array.length_toList] at hfin
 have hinfo:∀ (i:Nat) (o:Oper),ops[i]?=some o→(i=c→calm o.op=false)∧(i≠c→(Ii o.op=true∧i < c)∨(quiet o.op=true∧(reads o.op=true→i < c∧MF (FE ops.toList []) c i=true))):=by
   intro i o ho
   have:=O6 (j:=i) hl (A2 ho)
   rwa [Nat.zero_add] at this
 have hnal:∀ (i:Nat) (o:Oper),ops[i]?=some o→AY o.op=false:=fun i o ho=>Nt (j:=i) hl (A2 ho)
 have hall:∀ (i:Nat) (o:Oper),ops[i]?=some o→J P G (XS P G) H0 (.op ops o (FX fr (Bu ops) (En t) (fun _=>true) i) (Cg t s' i) (.ret (En t i)) (Cg t s' (i+1))):=by
   intro i o ho
   obtain ⟨fi,h1,h2⟩:=hat i o (A2 ho)
   have:=hfrs i _ h1
   simp only [Nat.zero_add] at this
   rcases h2 with ⟨_,h2⟩ | ⟨h2,_⟩
   · rw [← this]
     exact h2
   · rw [hnal i o ho] at h2;cases h2
 have hsn:Cg t s' ops.size=s':=by
   unfold Cg
   rw [List.getElem?_eq_none (by omega)]
 have hsame:∀ k,k≤c→Cg t s' k=s:=fun k hk=>hsm k (by rw [Array.length_toList];omega) (by omega)
 have hloud:Nb ops c:=by
   have ho:ops[c]?=some ops[c]:=Array.getElem?_eq_getElem hcl
   exact ⟨_,ho,(hinfo c _ ho).1 rfl⟩
 have key:=J.draw (P:=P) (G:=G) (X:=XS P G) (H:=H0) (id:=id) (f0:=fr) (s0:=s) [] (En t) (Cg t s') h0 hord (fun i o ho _=>hall i o ho) (fun i o ho hq=>by
   obtain ⟨h1,h2⟩:=EE hq (hall i o ho)
   refine ⟨h1,?_⟩
   rcases h2 with h2 | ⟨hw,h2⟩
   · exact .inl h2
   · refine .inr ⟨hw,fun k hk hwin=>?_⟩
     cases hrd:reads o.op with
     | false=>exact Jr hq hrd h2 _
     | true =>
       have hic:i≠c:=fun e=>by
         subst e
         obtain ⟨o2,ho2,hcm⟩:=hloud
         rw [ho] at ho2;cases ho2
         rw [PG hq] at hcm;cases hcm
       obtain ⟨hlt,hd⟩:i < c∧MF (FE ops.toList []) c i=true:=by
         rcases (hinfo i o ho).2 hic with ⟨hv,_⟩ | ⟨_,h3⟩
         · exfalso
           unfold Ii at hv
           split at hv
           · rename_i cl hop
             split at hv
             · rename_i f hcal
               rw [hop] at hq
               simp [quiet,hcal] at hq
             · cases hv
           · cases hv
         · exact h3 hrd
       have hkc:=hwin.2 c hloud hd
       rw [hsame k hkc]
       rw [hsame i (by omega)] at h2
       exact h2) (fun i o e ho he=>by
   have:=hnal i o ho
   rw [he] at this
   cases this)
 rw [← hfin,hsn] at key
 exact key
end
end AI
namespace AI
open Go Go.RowKit
def XM (G:AG) (fr:List AV) (o:Oper) (hs:List Hn):Option (List Nat):=match o.op with
 | .store _ a _=>(match AP G fr a with
   | some (.ptr id _)=>some [id]
   | _=>none)
 | .mapUpdate _ m _ _=>(match AA G fr m with
   | some (.mp id)=>some [id]
   | _=>none)
 | .call cl=>(match cl.callee with
   | .value _=>(match hs with
     | .w _::_=>some []
     | .u _ _ _ ups _::_=>some (ups.map (·.1))
     | .cn _ h _ _ _::_=>some (h.map (·.1))
     | _=>none)
   | .builtin .append=>(match hs with
     | .g _ _ _::_=>some []
     | _=>none)
   | _=>(match quiet o.op with
     | true=>some []
     | false=>none))
 | op=>(match quiet op with
   | true=>some []
   | false=>none)
def OM (G:AG) (ops:Array Oper) (fr:List AV) (o:Oper) (hs:List Hn):Option (List Nat):=match Bd ops fr o with
 | true=>XM G fr o hs
 | false=>some []
abbrev HA:=Option (List Hn×List Cd×List (List AV×AS×AV)×List (List Nat)×List AV×AS)
def gI (cd:List Cd) (x:List AV×AS×AV) (T:List Nat):HA→HA
 | some (hs,cd',t,Ts,fr,s)=>some (hs,cd++cd',x::t,T::Ts,fr,s)
 | none=>none
def VK (P:Program) (G:AG) (ops:Array Oper):List Oper→List Hn→List AV→AS→HA
 | [],hs,fr,s=>some (hs,[],[],[],fr,s)
 | o::l,hs,fr,s=>(match AY o.op with
   | true=>none
   | false=>(match OM G ops fr o hs with
     | some T=>(match Tl P G ops fr s o hs with
       | some (v,s1,hs1,cd)=>gI cd (fr,s,v) T (VK P G ops l hs1 (Ho fr o.dst v) s1)
       | none=>none)
     | none=>none))
def cN (G:AG) (fr:List AV) (o:Oper):Option (Option Nat):=match o.op with
 | .load _ a=>(match AA G fr a with
   | some (.ptr id _)=>some (some id)
   | some (.el _)=>some none
   | _=>none)
 | .lookup _ m _ _=>(match AA G fr m with
   | some (.mp id)=>some (some id)
   | _=>none)
 | .call cl=>(match cl.callee with
   | .builtin .len=>(match cl.args.toList with
     | [x]=>(match tO (AA G fr x) with
       | true=>some none
       | false=>none)
     | _=>none)
   | _=>none)
 | _=>none
def Zb (a:Nat):List Nat→Bool
 | []=>false
 | b::l=>(match Nat.beq a b with
   | true=>true
   | false=>Zb a l)
def Mh (ms:List Nat) (id i:Nat):List (List Nat)→Nat→Bool
 | [],_=>true
 | T::Ts,l=>(match Zb id T with
   | true=>(match Nat.blt l i with
     | true=>MF ms i l
     | false=>(match Nat.blt i l with
       | true=>MF ms l i
       | false=>true))
   | false=>true)&&Mh ms id i Ts (l+1)
def R9 (G:AG) (ops:Array Oper) (ms:List Nat) (Ts:List (List Nat)):List Oper→List (List AV×AS×AV)→Nat→Bool
 | o::os,t::ts,i=>(match Bd ops t.1 o with
   | false=>true
   | true=>(match reads o.op with
     | false=>true
     | true=>(match cN G t.1 o with
       | none=>false
       | some none=>true
       | some (some id)=>Mh ms id i Ts 0)))&&R9 G ops ms Ts os ts (i+1)
 | _,_,_=>true
theorem Ta {a:Nat}:∀ {l:List Nat},Zb a l=true↔a∈l
 | []=>by simp [Zb]
 | b::l=>by
   simp only [Zb]
   cases hb:Nat.beq a b with
   | true=>have:=Nat.eq_of_beq_eq_true hb;simp [this]
   | false =>
     have:=Nat.ne_of_beq_eq_false hb
     simp [Ta (l:=l),this]
theorem Sb {id:Nat}:∀ (l:List (Nat×AF)) (s:AS),id∉l.map (·.1)→(s.Na l).get id=s.get id
 | [],_,_=>rfl
 | e::l,s,h=>by
   simp only [List.map_cons,List.mem_cons,not_or] at h
   rw [AS.Na,Sb l _ h.2]
   exact E8 h.1 _
theorem SZ {id:Nat}:∀ {l:List (Nat×AF)} (m:List (Nat×AF)),id∉l.map (·.1)→look id (l++m)=look id m
 | [],_,_=>rfl
 | e::l,m,h=>by
   simp only [List.map_cons,List.mem_cons,not_or] at h
   simp only [List.cons_append,look]
   have hb:Nat.beq e.1 id=false:=by
     cases hq:Nat.beq e.1 id with
     | false=>rfl
     | true=>exact absurd (Nat.eq_of_beq_eq_true hq).symm h.1
   rw [hb]
   exact SZ m h.2
theorem Qf {id:Nat}:∀ (l:List (Nat×Nat)) (s:AS),(s.Lc l).get id=s.get id
 | [],_=>rfl
 | e::l,s=>by rw [AS.Lc,Qf l];rfl
section
variable {P:Program} {G:AG} {ops:Array Oper}
theorem V0 {fr:List AV} {s s1:AS} {o:Oper} {hs hs':List Hn} {v:AV} {cd:List Cd} {T:List Nat} (h:Tl P G ops fr s o hs=some (v,s1,hs',cd)) (hT:OM G ops fr o hs=some T) (hc:KR P G cd) (ha:AY o.op=false) (id:Nat) (hid:id∉T):s1.get id=s.get id:=by
 have hj:=Ll h hc
 cases hq:quiet o.op with
 | true=>rw [(EE hq hj).1]
 | false =>
   unfold Tl at h
   unfold OM at hT
   split at h
   · rename_i hw
     rw [hw] at hT
     simp only at hT
     unfold XM at hT
     split at hT
     · rename_i t a x ho
       unfold Y7 at h
       rw [ho] at h
       simp only at h
       have h1:∃ a' x',AP G fr a=some a'∧AP G fr x=some x'∧GG P s t a' x'=some s1:=by
         rcases M8 h hc with ⟨a',x',h2,h3,h4,_⟩ | h2
         · exact ⟨a',x',h2,h3,h4⟩
         · have h1:=MJ h2
           rw [GR] at h1
           unfold JA at h1
           rw [ho] at h1
           simp only at h1
           split at h1
           · rename_i a' x' ha' hx'
             obtain ⟨s',hst,he⟩:=map_some h1
             injection he with he1 he2
             subst he2
             exact ⟨a',x',ha',hx',hst⟩
           · cases h1
       obtain ⟨a',x',ha',hx',hst⟩:=h1
       rw [ha'] at hT
       split at hT
       · rename_i id' off heq
         cases heq
         cases hT
         simp only [List.mem_singleton] at hid
         unfold GG at hst
         split at hst
         · rename_i i id2 off2 hi2 heq2
           cases heq2
           split at hst
           · split at hst
             · cases hst
               exact E8 hid _
             · cases hst
           · cases hst
         · cases hst
       · cases hT
     · rename_i t m k x ho
       unfold Y7 at h
       rw [ho] at h
       simp only at h
       split at hT
       · rename_i id' heq
         rw [heq] at h
         cases hT
         simp only [List.mem_singleton] at hid
         simp only at h
         split at h
         · split at h
           · have set_far:∀ kk x' s2,Ff P s t (.mp id') kk x'=some s2→s2.get id=s.get id:=by
               intro kk x' s2 h2
               unfold Ff at h2
               repeat' split at h2
               all_goals first
                 | (cases h2;done)
                 | (rename_i heq2;cases heq2;cases h2;exact E8 hid _)
                 | (simp_all only [AV.mp.injEq,Option.some.injEq];subst_vars;exact E8 hid _)
             unfold jR at h
             split at h
             · cases h;exact set_far _ _ _ hc.1
             · cases h
               exact E8 hid _
             · cases h
           · cases h
         · cases h
       · cases hT
     · rename_i cl ho
       split at hT
       · rename_i f hcl
         unfold Y7 at h
         rw [ho] at h
         simp only [hcl] at h
         unfold Qw at h
         split at h
         · split at h
           · cases h;rfl
           · cases h
         · cases hT
         · split at h
           · cases h
             cases hT
             rw [Qf]
             exact Sb _ _ hid
           · cases h
         · split at h
           · cases h
             cases hT
             exact SZ _ hid
           · cases h
         · cases h
       · rename_i hcl
         unfold Y7 at h
         rw [ho] at h
         simp only [hcl] at h
         split at hT
         · split at h
           · split at h
             · split at h
               · unfold j6 at h
                 simp only at h
                 split at h
                 · cases h;rfl
                 · split at h
                   · split at h
                     · cases h;rfl
                     · cases h
                   · cases h
                 · cases h
               · cases h
             · cases h
           · cases h
         · cases hT
       · rw [hq] at hT;cases hT
     · rw [hq] at hT;cases hT
   · cases h;rfl
theorem T6 {fr:List AV} {o:Oper} {hs:List Hn} {T:List Nat} (hT:OM G ops fr o hs=some T) {id:Nat} (h:id∈T) (ha:AY o.op=false):calm o.op=false:=by
 unfold calm
 rw [ha]
 simp only
 cases hq:quiet o.op with
 | false=>rfl
 | true =>
   exfalso
   unfold OM at hT
   split at hT
   · unfold XM at hT
     split at hT
     · rename_i ho;rw [ho] at hq;cases hq
     · rename_i ho;rw [ho] at hq;cases hq
     · rename_i cl ho
       split at hT
       · rename_i hcl;rw [ho] at hq;simp [quiet,hcl] at hq
       · split at hT
         · cases hT;cases h
         · cases hT
       · rw [hq] at hT;cases hT;cases h
     · rw [hq] at hT;cases hT;cases h
   · cases hT;cases h
theorem Z7 {q:Nat}:∀ {l:List Oper} {hs hs':List Hn} {fr fr':List AV} {s s':AS} {cd:List Cd} {t:List (List AV×AS×AV)} {Ts:List (List Nat)},VK P G ops l hs fr s=some (hs',cd,t,Ts,fr',s')→KR P G cd →
   I5 P G (XS P G) H0 ops q l fr s t fr' s'∧(∀ o∈l,AY o.op=false)∧(∀ (i:Nat) id,i < l.length→(∀ T,Ts[i]?=some T→id∉T)→(Cg t s' (i+1)).get id=(Cg t s' i).get id)∧∀ (i:Nat) o T id,l[i]?=some o→Ts[i]?=some T→id∈T→calm o.op=false:=by
 intro l
 induction l with
 | nil =>
   intro hs hs' fr fr' s s' cd t Ts h hc
   simp only [VK] at h
   cases h
   exact ⟨.nil,(fun o h=>by cases h),(fun i id h=>by simp at h),fun i o T id h=>by simp at h⟩
 | cons o l ih =>
   intro hs hs' fr fr' s s' cd t Ts h hc
   simp only [VK] at h
   split at h
   · cases h
   · rename_i ha
     split at h
     · rename_i T hT
       split at h
       · rename_i v s1 hs1 cd1 h1
         unfold gI at h
         split at h
         · rename_i hs2 cd2 t2 Ts2 fr2 s2 h2
           cases h
           obtain ⟨c1,c2⟩:=hc.SI
           obtain ⟨k1,k2,k3,k4⟩:=ih h2 c2
           refine ⟨.cons ha (Ll h1 c1) k1,fun o' ho'=>?_,fun i id hi hno=>?_,fun i o' T' id ho' hT' hid=>?_⟩
           · rcases List.mem_cons.1 ho' with rfl | ho'
             · exact ha
             · exact k2 o' ho'
           · cases i with
             | zero =>
               have e1:Cg ((fr,s,v)::t2) s' 0=s:=rfl
               have e2:Cg ((fr,s,v)::t2) s' (0+1)=s1:=by
                 rw [show Cg ((fr,s,v)::t2) s' (0+1)=Cg t2 s' 0 by unfold Cg;simp]
                 exact k1.at.1
               rw [e1,e2]
               exact V0 h1 hT c1 ha id (hno T rfl)
             | succ i =>
               have e:∀ j,Cg ((fr,s,v)::t2) s' (j+1)=Cg t2 s' j:=fun j=>by unfold Cg;simp
               rw [e,e]
               exact k3 i id (by simpa using hi) (fun T' h'=>hno T' (by simpa using h'))
           · cases i with
             | zero=>simp at ho' hT';subst ho' hT';exact T6 hT hid ha
             | succ i=>exact k4 i o' T' id (by simpa using ho') (by simpa using hT') hid
         · cases h
       · cases h
     · cases h
theorem Pq {ms:List Nat} {id i:Nat}:∀ {Ts:List (List Nat)} {l0:Nat},Mh ms id i Ts l0=true→∀ {l:Nat} {T:List Nat},Ts[l]?=some T→id∈T→(l0+l < i→MF ms i (l0+l)=true)∧(i < l0+l→MF ms (l0+l) i=true):=by
 intro Ts
 induction Ts with
 | nil=>intro l0 _ l T h;simp at h
 | cons T0 Ts ih =>
   intro l0 h l T hT hid
   simp only [Mh,Bool.and_eq_true] at h
   cases l with
   | zero =>
     simp at hT;subst hT
     have h1:=h.1
     rw [Ta.2 hid] at h1
     simp only at h1
     constructor
     · intro hlt
       have e:Nat.blt l0 i=true:=Nat.ble_eq_true_of_le hlt
       rw [e] at h1;exact h1
     · intro hlt
       have e:Nat.blt l0 i=false:=by
         cases hq:Nat.blt l0 i with
         | false=>rfl
         | true=>have:=Nat.le_of_ble_eq_true hq;omega
       have e2:Nat.blt i l0=true:=Nat.ble_eq_true_of_le hlt
       rw [e,e2] at h1;exact h1
   | succ l =>
     have:=ih h.2 (l:=l) (by simpa using hT) hid
     rw [show l0+(l+1)=l0+1+l by omega]
     exact this
theorem ZM {ms:List Nat} {Ts:List (List Nat)}:∀ {os:List Oper} {ts:List (List AV×AS×AV)} {i:Nat},R9 G ops ms Ts os ts i=true→∀ {j:Nat} {o:Oper} {x:List AV×AS×AV},os[j]?=some o→ts[j]?=some x→Bd ops x.1 o=true→reads o.op=true→∃ r,cN G x.1 o=some r∧∀ id,r=some id→Mh ms id (i+j) Ts 0=true:=by
 intro os
 induction os with
 | nil=>intro ts i _ j o x h;simp at h
 | cons y os ih =>
   intro ts i h j o x ho hx hw hr
   cases ts with
   | nil=>simp at hx
   | cons t ts =>
     simp only [R9,Bool.and_eq_true] at h
     cases j with
     | zero =>
       simp at ho hx;subst ho hx
       have h1:=h.1
       rw [hw,hr] at h1
       simp only at h1
       split at h1
       · cases h1
       · rename_i hq;exact ⟨none,hq,fun id h=>by cases h⟩
       · rename_i id hq;exact ⟨some id,hq,fun id' h=>by cases h;exact h1⟩
     | succ j =>
       have:=ih h.2 (j:=j) (by simpa using ho) (by simpa using hx) hw hr
       rw [show i+(j+1)=i+1+j by omega]
       exact this
theorem eE {fr:List AV} {s s2:AS} {o:Oper} {v:AV} {r:Option Nat} (hr:cN G fr o=some r) (hs:∀ id,r=some id→s2.get id=s.get id) (h:JA P G fr s o=some (.val v s)):JA P G fr s2 o=some (.val v s2):=by
 unfold cN at hr
 split at hr
 · rename_i t a ho
   rw [Bh] at hr
   unfold JA at h ⊢
   rw [ho] at h ⊢
   simp only at h ⊢
   obtain ⟨v',h3,h4⟩:=map_some h
   injection h4 with h4
   subst h4
   obtain ⟨b,h5,h6⟩:=bind_some h3
   rw [h5] at hr ⊢
   split at hr
   · rename_i id off heq;cases heq
     cases hr
     have:FI P s2 t (.ptr id off)=FI P s t (.ptr id off):=by
       simp only [FI]
       rw [hs id rfl]
     simp only [Option.bind_some]
     rw [this,h6];rfl
   · rename_i heq;cases heq
     simp only [Option.bind_some]
     rw [show FI P s2 t (.el _)=FI P s t (.el _) from rfl,h6];rfl
   · cases hr
 · rename_i t m k ok ho
   rw [Bh] at hr
   unfold JA at h ⊢
   rw [ho] at h ⊢
   simp only at h ⊢
   split at hr
   · rename_i id heq
     cases hr
     rw [heq] at h ⊢
     split at h
     · rename_i a b ha hb
       cases ha
       obtain ⟨v',h3,h4⟩:=map_some h
       injection h4 with h4
       subst h4
       have:EO P s2 t (.mp id) b ok=EO P s t (.mp id) b ok:=by
         simp only [EO]
         rw [hs id rfl]
       rw [this,h3];rfl
     · cases h
   · cases hr
 · rename_i cl ho
   split at hr
   · rename_i hcl
     unfold JA at h ⊢
     rw [ho] at h ⊢
     simp only [K2,hcl] at h ⊢
     split at hr
     · rename_i x hx
       rw [hx] at h ⊢
       cases ht:cl.argTypes.toList with
       | nil=>rw [ht] at h;cases h
       | cons t1 ts =>
         cases ts with
         | cons _ _=>rw [ht] at h;cases h
         | nil =>
           rw [ht] at h
           simp only at h ⊢
           obtain ⟨v',h3,h4⟩:=map_some h
           injection h4 with h4
           subst h4
           obtain ⟨b,h5,h6⟩:=bind_some h3
           rw [Bh,h5] at hr
           rw [h5]
           simp only [Option.bind_some]
           split at hr
           · rename_i hsl
             have:NN P s2 t1 b=NN P s t1 b:=by
               unfold tO at hsl
               split at hsl
               · rename_i heq;cases heq;unfold NN;split<;>first | rfl | (simp_all;done)
               · rename_i heq;cases heq;unfold NN;split<;>first | rfl | (simp_all;done)
               · cases hsl
             rw [this,h6];rfl
           · cases hr
     · cases hr
   · cases hr
 · cases hr
theorem Zx {id:Nat} {fr fr':List AV} {s s':AS} {t:List (List AV×AS×AV)} {Ts:List (List Nat)} {hs hs':List Hn} {cd:List Cd} (hord:Hv ops=true) (h:VK P G ops ops.toList hs fr s=some (hs',cd,t,Ts,fr',s')) (hr:R9 G ops (FE ops.toList []) Ts ops.toList t 0=true) (hc:KR P G cd):J P G (XS P G) H0 (.code (.region id ops true) fr s .normal fr' s'):=by
 obtain ⟨htr,hna,hst,hlo⟩:=Z7 (q:=s.nx) h hc
 have hlen:t.length=ops.size:=by rw [htr.len,Array.length_toList]
 obtain ⟨h0,hat⟩:=htr.at
 have hdst:∀ i o,ops[i]?=some o→Bu ops i=o.dst:=fun i o ho=>by unfold Bu;rw [ho];rfl
 obtain ⟨hfin,hfrs⟩:=htr.Pj (Bu ops) (En t) fr 0 rfl (fun i o ho=>by rw [Nat.zero_add];exact hdst i o (by rw [← Array.getElem?_toList];exact ho)) (fun i=>.inl (by rw [Nat.zero_add]))
 rw [Nat.zero_add,Array.length_toList] at hfin
 have hnal:∀ (i:Nat) (o:Oper),ops[i]?=some o→AY o.op=false:=fun i o ho=>hna o (List.mem_of_getElem? (A2 ho))
 have hall:∀ (i:Nat) (o:Oper),ops[i]?=some o→J P G (XS P G) H0 (.op ops o (FX fr (Bu ops) (En t) (fun _=>true) i) (Cg t s' i) (.ret (En t i)) (Cg t s' (i+1))):=by
   intro i o ho
   obtain ⟨fi,h1,h2⟩:=hat i o (A2 ho)
   have:=hfrs i _ h1
   simp only [Nat.zero_add] at this
   rcases h2 with ⟨_,h2⟩ | ⟨h2,_⟩
   · rw [← this]
     exact h2
   · rw [hnal i o ho] at h2;cases h2
 have hsn:Cg t s' ops.size=s':=by
   unfold Cg
   rw [List.getElem?_eq_none (by omega)]
 have hTl:∀ (l:Nat) T id,Ts[l]?=some T→id∈T→l < ops.size→Nb ops l:=by
   intro l T id hT hid hl
   exact ⟨ops[l],Array.getElem?_eq_getElem hl,hlo l ops[l] T id (A2 (Array.getElem?_eq_getElem hl)) hT hid⟩
 have hsame:∀ (bx:Nat) (d i:Nat),i+d≤ops.size→(∀ l,i≤l→l < i+d→∀ T,Ts[l]?=some T→bx∉T)→(Cg t s' (i+d)).get bx=(Cg t s' i).get bx:=by
   intro bx d
   induction d with
   | zero=>intro i _ _;rfl
   | succ d ih =>
     intro i hle hno
     rw [show i+(d+1)=(i+d)+1 by omega,hst (i+d) bx (by rw [Array.length_toList];omega) (hno (i+d) (by omega) (by omega))]
     exact ih i (by omega) (fun l h1 h2=>hno l h1 (by omega))
 have key:=J.draw (P:=P) (G:=G) (X:=XS P G) (H:=H0) (id:=id) (f0:=fr) (s0:=s) [] (En t) (Cg t s') h0 hord (fun i o ho _=>hall i o ho) (fun i o ho hq=>by
   obtain ⟨h1,h2⟩:=EE hq (hall i o ho)
   refine ⟨h1,?_⟩
   rcases h2 with h2 | ⟨hw,h2⟩
   · exact .inl h2
   · refine .inr ⟨hw,fun k hk hwin=>?_⟩
     cases hrd:reads o.op with
     | false=>exact Jr hq hrd h2 _
     | true =>
       have hil:i < ops.size:=(Array.getElem?_eq_some_iff.1 ho).1
       obtain ⟨fi,hti,_⟩:=hat i o (A2 ho)
       have hfi:=hfrs i _ hti
       simp only [Nat.zero_add] at hfi
       obtain ⟨r,hr1,hr2⟩:=ZM hr (A2 ho) hti (by rw [hfi];exact hw) hrd
       rw [hfi] at hr1
       refine eE hr1 (fun bx hbx=>?_) h2
       have hto:=hr2 bx hbx
       rw [Nat.zero_add] at hto
       rcases Nat.lt_or_ge k i with hki | hki
       · have:=hsame bx (i - k) k (by omega) (fun l h3 h4 T hT hm=>by
           have hd:=(Pq hto hT hm).1 (by omega)
           rw [Nat.zero_add] at hd
           have:=hwin.1 l (hTl l T bx hT hm (by omega)) hd
           omega)
         rw [show k+(i - k)=i by omega] at this
         exact this.symm
       · have:=hsame bx (k - i) i (by omega) (fun l h3 h4 T hT hm=>by
           have hll:=hTl l T bx hT hm (by omega)
           rcases Nat.lt_or_ge i l with h5 | h5
           · have hd:=(Pq hto hT hm).2 (by omega)
             rw [Nat.zero_add] at hd
             have:=hwin.2 l hll hd
             omega
           · have:l=i:=by omega
             subst this
             obtain ⟨o2,ho2,hcm⟩:=hll
             rw [ho] at ho2;cases ho2
             rw [PG hq] at hcm;cases hcm)
         rw [show i+(k - i)=k by omega] at this
         exact this) (fun i o e ho he=>by
   have:=hnal i o ho
   rw [he] at this
   cases this)
 rw [← hfin,hsn] at key
 exact key
end
end AI
namespace AI
open Go Go.RowKit
abbrev HS:=Option (List Hn×List Cd×List AV×AS)
def gN (cd:List Cd):HS→HS
 | some (hs,cd',fr,s)=>some (hs,cd++cd',fr,s)
 | none=>none
abbrev HC:=Option (AX×List Hn×List Cd×List AV×AS)
def Vx (cd:List Cd):HC→HC
 | some (e,hs,cd',fr,s)=>some (e,hs,cd++cd',fr,s)
 | none=>none
def nH (P:Program) (G:AG) (ops:Array Oper) (fr:List AV) (s:AS) (o:Oper):List Hn→HO
 | .p v s1::hs=>(match Bd ops fr o with
   | true=>(match Lh P G fr s o with
     | some (.ent f args)=>some (v,s1,hs,[.callP f args s v s1])
     | some (.pan v')=>some (v',s,hs,[])
     | _=>none)
   | false=>none)
 | .q v pre tp ups tu::hs=>(match Bd ops fr o with
   | true=>(match Lh P G fr s o with
     | some (.ent f args)=>some (v,(s.Na ups).Lc tu,hs,[.callU f args (.pan v) pre tp ups tu,.eqx (OJ s pre) (L9 pre) (P5 s.F tp) (Nn tp)])
     | _=>none)
   | false=>none)
 | _=>none
def XY (P:Program) (G:AG) (ops:Array Oper):List Oper→List Hn→List AV→AS→HC
 | [],hs,fr,s=>some (.normal,hs,[],fr,s)
 | o::l,hs,fr,s=>(match nH P G ops fr s o hs with
   | some (v,s1,hs1,cd)=>some (.pan v,hs1,cd,fr,s1)
   | none=>(match Tl P G ops fr s o hs with
     | some (v,s1,hs1,cd)=>Vx cd (XY P G ops l hs1 (Ho fr o.dst v) s1)
     | none=>none))
def S2 (P:Program) (G:AG) (ops:Array Oper):List Oper→List Hn→List AV→AS→HS
 | [],hs,fr,s=>some (hs,[],fr,s)
 | o::l,hs,fr,s=>(match Xh P G ops fr s o hs with
   | some (v,s1,hs1,cd)=>gN cd (S2 P G ops l hs1 (Ho fr o.dst v) s1)
   | none=>none)
def steady (op:Op):Bool:=match quiet op with
 | true=>true
 | false=>(match op with
   | .call cl=>(match cl.callee with | .value _=>true | _=>false)
   | _=>false)
def JQ:List Oper→Bool
 | []=>true
 | o::l=>(match steady o.op with | true=>JQ l | false=>false)
def pC:HS→HC
 | some (hs,cd,fr,s)=>some (.normal,hs,cd,fr,s)
 | none=>none
def rA (P:Program) (G:AG) (ops:Array Oper) (hs:List Hn) (fr:List AV) (s:AS):HC:=match ZQ P ops.toList with
 | some r=>(match Xd P G ops ops.toList s.nx hs fr (s.hold r) with
   | some (hs',cd,t,fr',s')=>(match GF G ops s.nx ops.toList t with
     | true=>(match KN P ops t s' s.nx r with
       | true=>some (.normal,hs',cd,fr',s')
       | false=>none)
     | false=>none)
   | none=>none)
 | none=>none
def W9 (P:Program) (G:AG) (ops:Array Oper) (c:Nat) (hs:List Hn) (fr:List AV) (s:AS):HC:=match Nat.blt c ops.size with
 | true=>(match LI (FE ops.toList []) c ops.toList 0 with
   | true=>(match V3 P G ops c ops.toList 0 hs fr s with
     | some (hs',cd,_,fr',s')=>some (.normal,hs',cd,fr',s')
     | none=>none)
   | false=>none)
 | false=>none
def gK (P:Program) (G:AG) (ops:Array Oper) (hs:List Hn) (fr:List AV) (s:AS):HC:=match VK P G ops ops.toList hs fr s with
 | some (hs',cd,t,Ts,fr',s')=>(match R9 G ops (FE ops.toList []) Ts ops.toList t 0 with
   | true=>some (.normal,hs',cd,fr',s')
   | false=>none)
 | none=>none
def hP (P:Program) (G:AG) (ops:Array Oper) (fr:List AV) (s:AS):List Hn→HC
 | .z c::hs=>W9 P G ops c hs fr s
 | .za::hs=>gK P G ops hs fr s
 | hs=>(match JQ ops.toList with
   | true=>pC (S2 P G ops ops.toList hs fr s)
   | false=>rA P G ops hs fr s)
def Z6 (P:Program) (G:AG) (ops:Array Oper) (d:Bool) (hs:List Hn) (fr:List AV) (s:AS):HC:=match d with
 | false=>XY P G ops ops.toList hs fr s
 | true=>(match Hv ops with
   | true=>hP P G ops fr s hs
   | false=>none)
def Hw (P:Program) (G:AG):Code→List Hn→List AV→AS→HC
 | .skip,hs,fr,s=>some (.normal,hs,[],fr,s)
 | .exit id,hs,fr,s=>some (.exit id,hs,[],fr,s)
 | .ret,hs,fr,s=>some (.ret,hs,[],fr,s)
 | .seq x y,hs,fr,s=>(match Hw P G x hs fr s with
   | some (.normal,hs1,cd,fr1,s1)=>Vx cd (Hw P G y hs1 fr1 s1)
   | r=>r)
 | .cond q x y,hs,fr,s=>(match AA G fr q with
   | some (.sc (.bool true))=>Hw P G x hs fr s
   | some (.sc (.bool false))=>Hw P G y hs fr s
   | _=>none)
 | .block id c,hs,fr,s=>(match Hw P G c hs fr s with
   | some (e,hs1,cd,fr1,s1)=>some (DU id e,hs1,cd,fr1,s1)
   | none=>none)
 | .region _ ops d,hs,fr,s=>(match hs with
   | .n l::hs=>(match oA l fr s with
     | some (fr2,s2)=>Z6 P G ops d hs fr2 s2
     | none=>none)
   | hs=>Z6 P G ops d hs fr s)
 | _,_,_,_=>none
section
variable {P:Program} {G:AG} {ops:Array Oper}
theorem fQ {fr:List AV} {s s1:AS} {o:Oper} {hs hs':List Hn} {v:AV} {cd:List Cd} (h:nH P G ops fr s o hs=some (v,s1,hs',cd)) (hc:KR P G cd):J P G (XS P G) H0 (.op ops o fr s (.pan v) s1):=by
 unfold nH at h
 split at h
 · rw [GR] at h
   split at h
   · rename_i hw
     split at h
     · rename_i h1
       cases h
       exact .opCall hw h1 (.ext hc.1)
     · rename_i h1
       cases h
       exact .opPan hw h1
     · cases h
   · cases h
 · rw [GR] at h
   split at h
   · rename_i hw
     split at h
     · rename_i h1
       cases h
       exact .opCall hw h1 (.ext (hc.1 s hc.2.1.1 hc.2.1.2))
     · cases h
   · cases h
 · cases h
theorem Z5 {l:List Oper} {k:Nat} (hk:l=ops.toList.drop k) {hs hs':List Hn} {fr fr':List AV} {s s':AS} {e:AX} {cd:List Cd} (h:XY P G ops l hs fr s=some (e,hs',cd,fr',s')) (hc:KR P G cd):J P G (XS P G) H0 (.ops ops (List.range' k l.length) fr s e fr' s'):=by
 induction l generalizing k hs fr s cd with
 | nil=>simp only [XY] at h;cases h;exact .opsNil
 | cons o l ih =>
   obtain ⟨k1,k2⟩:=drop_cons hk
   simp only [XY] at h
   split at h
   · rename_i v s1 hs1 cd1 h1
     cases h
     rw [List.length_cons,List.range'_succ]
     exact .opsPan (by rw [← Array.getElem?_toList];exact k1) (fQ h1 hc)
   · split at h
     · rename_i v s1 hs1 cd1 h1
       unfold Vx at h
       split at h
       · rename_i e2 hs2 cd2 fr2 s2 h2
         cases h
         obtain ⟨c1,c2⟩:=hc.SI
         rw [List.length_cons,List.range'_succ]
         exact .opsCons (by rw [← Array.getElem?_toList];exact k1) (Ll h1 c1) (ih k2 h2 c2)
       · cases h
     · cases h
theorem fS {l:List Oper} {q:Nat} (hst:JQ l=true) {hs hs':List Hn} {fr fr':List AV} {s s':AS} {cd:List Cd} (h:S2 P G ops l hs fr s=some (hs',cd,fr',s')) (hc:KR P G cd):s'=s∧∃ t,I5 P G (XS P G) H0 ops q l fr s t fr' s∧∀ x∈t,x.2.1=s:=by
 induction l generalizing hs fr cd s with
 | nil=>simp only [S2] at h;cases h;exact ⟨rfl,[],.nil,fun x hx=>by cases hx⟩
 | cons o l ih =>
   simp only [JQ] at hst
   split at hst
   · rename_i hso
     simp only [S2] at h
     split at h
     · rename_i v s1 hs1 cd1 h1
       unfold gN at h
       split at h
       · rename_i hs2 cd2 fr2 s2 h2
         cases h
         obtain ⟨c1,c2⟩:=hc.SI
         obtain ⟨h1,hA⟩:=KM h1
         have hj:=Ll h1 c1
         have hna:AY o.op=false:=by
           cases ha:AY o.op with
           | false=>rfl
           | true=>obtain ⟨e,he⟩:=ET ha;rw [he] at hso;simp [steady,quiet] at hso
         have hs1:s1=s:=by
           cases hq:quiet o.op with
           | true=>exact (EE hq hj).1
           | false =>
             unfold steady at hso
             rw [hq] at hso
             simp only at hso
             split at hso
             · rename_i cl hop
               split at hso
               · rename_i f hcl
                 unfold Tl at h1
                 split at h1
                 · unfold Y7 at h1
                   rw [hop] at h1
                   simp only [hcl] at h1
                   unfold Qw at h1
                   split at h1
                   · split at h1
                     · cases h1;rfl
                     · cases h1
                   · have:=hA (by rw [hop];simp [Ii,hcl])
                     simp [VJ] at this
                   · have:=hA (by rw [hop];simp [Ii,hcl])
                     simp [VJ] at this
                   · have:=hA (by rw [hop];simp [Ii,hcl])
                     simp [VJ] at this
                   · cases h1
                 · cases h1;rfl
               · cases hso
             · cases hso
         subst hs1
         obtain ⟨e,t,ht,hall⟩:=ih hst h2 c2
         subst e
         exact ⟨rfl,_,.cons hna hj ht,fun x hx=>by
           rcases List.mem_cons.1 hx with rfl | hx
           · rfl
           · exact hall x hx⟩
       · cases h
     · cases h
   · cases hst
theorem MK {l:List Oper} (hst:JQ l=true) {i:Nat} {o:Oper} (ho:l[i]?=some o):steady o.op=true:=by
 induction l generalizing i with
 | nil=>simp at ho
 | cons x l ih =>
   simp only [JQ] at hst
   split at hst
   · rename_i hso
     cases i with
     | zero=>simp at ho;subst ho;exact hso
     | succ i=>exact ih hst (by simpa using ho)
   · cases hst
theorem Uv {X:Lk} {H:Jh} {id:Nat} {fr fr':List AV} {s:AS} {t:List (List AV×AS×AV)} (hord:Hv ops=true) (hst:JQ ops.toList=true) (h:I5 P G X H ops s.nx ops.toList fr s t fr' s) (hall:∀ x∈t,x.2.1=s):J P G X H (.code (.region id ops true) fr s .normal fr' s):=by
 have hlen:t.length=ops.size:=by rw [h.len,Array.length_toList]
 obtain ⟨h0,hat⟩:=h.at
 have hsa:∀ i,Cg t s i=s:=by
   intro i
   unfold Cg
   split
   · rename_i x hx;exact hall x (List.mem_of_getElem? hx)
   · rfl
 have hdst:∀ i o,ops[i]?=some o→Bu ops i=o.dst:=fun i o ho=>by unfold Bu;rw [ho];rfl
 obtain ⟨hfin,hfrs⟩:=h.Pj (Bu ops) (En t) fr 0 rfl (fun i o ho=>by rw [Nat.zero_add];exact hdst i o (by rw [← Array.getElem?_toList];exact ho)) (fun i=>.inl (by rw [Nat.zero_add]))
 rw [Nat.zero_add,Array.length_toList] at hfin
 have hna:∀ (i:Nat) (o:Oper),ops[i]?=some o→AY o.op=false:=by
   intro i o ho
   have:=MK hst (A2 ho)
   cases ha:AY o.op with
   | false=>rfl
   | true=>obtain ⟨e,he⟩:=ET ha;rw [he] at this;simp [steady,quiet] at this
 have hj:∀ i o,ops[i]?=some o→J P G X H (.op ops o (FX fr (Bu ops) (En t) (fun _=>true) i) s (.ret (En t i)) s):=by
   intro i o ho
   obtain ⟨fi,h1,h2⟩:=hat i o (A2 ho)
   have:=hfrs i _ h1
   simp only [Nat.zero_add] at this
   rcases h2 with ⟨_,h2⟩ | ⟨h2,_⟩
   · rw [← this]
     rw [hsa,hsa] at h2
     exact h2
   · rw [hna i o ho] at h2;cases h2
 have key:=J.draw (P:=P) (G:=G) (X:=X) (H:=H) (id:=id) (f0:=fr) (s0:=s) [] (En t) (fun _=>s) rfl hord (fun i o ho _=>hj i o ho) (fun i o ho hq=>⟨rfl,by
   obtain ⟨_,h2⟩:=EE hq (hj i o ho)
   rcases h2 with h2 | ⟨hw,h2⟩
   · exact .inl h2
   · exact .inr ⟨hw,fun k _ _=>h2⟩⟩) (fun i o e ho he=>by have:=hna i o ho;rw [he] at this;cases this)
 rw [← hfin] at key
 exact key
theorem Vt {ops:Array Oper} {id:Nat} {d:Bool} {hs hs':List Hn} {fr fr':List AV} {s s':AS} {e:AX} {cd:List Cd} (h:Z6 P G ops d hs fr s=some (e,hs',cd,fr',s')) (hc:KR P G cd):J P G (XS P G) H0 (.code (.region id ops d) fr s e fr' s'):=by
 unfold Z6 at h
 cases d with
 | false =>
   simp only at h
   have:=Z5 (ops:=ops) (k:=0) (by simp) h hc
   refine .region ?_
   rw [Array.length_toList] at this
   rw [List.range_eq_range']
   exact this
 | true =>
   simp only at h
   split at h
   · rename_i hord
     unfold hP at h
     split at h
     · unfold W9 at h
       split at h
       · rename_i hcs
         split at h
         · rename_i hl
           split at h
           · rename_i heq
             cases h
             exact WB hord hcs hl heq hc
           · cases h
         · cases h
       · cases h
     · unfold gK at h
       split at h
       · rename_i heq
         split at h
         · rename_i hrd
           cases h
           exact Zx hord heq hrd hc
         · cases h
       · cases h
     split at h
     · rename_i hst
       unfold pC at h
       split at h
       · rename_i h1
         cases h
         obtain ⟨e,t,ht,hall⟩:=fS (q:=s.nx) hst h1 hc
         subst e
         exact Uv hord hst ht hall
       · cases h
     · unfold rA at h
       split at h
       · rename_i r hr
         split at h
         · rename_i hs1 cd1 t fr1 s1 htr
           split at h
           · rename_i hi
             split at h
             · rename_i hst1
               cases h
               exact Zi hord hr htr hc hi hst1
             · cases h
           · cases h
         · cases h
       · cases h
   · cases h
theorem XR (c:Code) {hs hs':List Hn} {fr fr':List AV} {s s':AS} {e:AX} {cd:List Cd} (h:Hw P G c hs fr s=some (e,hs',cd,fr',s')) (hc:KR P G cd):J P G (XS P G) H0 (.code c fr s e fr' s'):=by
 induction c generalizing hs hs' fr fr' s s' e cd with
 | skip=>simp only [Hw] at h;cases h;exact .skip
 | exit id=>simp only [Hw] at h;cases h;exact .exit
 | ret=>simp only [Hw] at h;cases h;exact .ret
 | seq x y ihx ihy =>
   simp only [Hw] at h
   cases hx:Hw P G x hs fr s with
   | none=>rw [hx] at h;cases h
   | some r =>
     obtain ⟨e1,hs1,cd1,fr1,s1⟩:=r
     rw [hx] at h
     cases e1 with
     | normal =>
       simp only at h
       unfold Vx at h
       split at h
       · rename_i e2 hs2 cd2 fr2 s2 h2
         cases h
         obtain ⟨c1,c2⟩:=hc.SI
         exact .seq (ihx hx c1) (ihy h2 c2)
       · cases h
     | exit id=>simp only at h;cases h;exact .seqX (ihx hx hc) (by simp)
     | ret=>simp only at h;cases h;exact .seqX (ihx hx hc) (by simp)
     | pan v=>simp only at h;cases h;exact .seqX (ihx hx hc) (by simp)
 | cond q x y ihx ihy =>
   simp only [Hw,Bh] at h
   split at h
   · rename_i hq;exact .cond hq (ihx h hc)
   · rename_i hq;exact .cond hq (ihy h hc)
   · cases h
 | block id c ih =>
   simp only [Hw] at h
   split at h
   · rename_i h1;cases h;exact .block (ih h1 hc)
   · cases h
 | region id ops d =>
   simp only [Hw] at h
   split at h
   · split at h
     · rename_i hz
       exact .weak (fun cx w vs h1 h2=>X4 hz cx w vs h1 h2) (Vt h hc)
     · cases h
   · exact Vt h hc
 | _=>simp only [Hw] at h;cases h
def KL:Code→Bool
 | .loop _=>true
 | .seq x y=>KL x||KL y
 | .cond _ x y=>KL x||KL y
 | .block _ c=>KL c
 | _=>false
abbrev HP:=Option (Code×List Hn×List Cd×List AV×AS)
end
end AI
namespace AI
open Go Go.RowKit
structure PC (P:Program) (G:AG) where
 hn:Hn
 cd:List Cd
 ok:KR P G cd
def uT {P:Program} {G:AG}:List (PC P G)→List Hn
 | []=>[]
 | p::l=>p.hn::uT l
def W2 {P:Program} {G:AG}:List (PC P G)→List Cd
 | []=>[]
 | p::l=>p.cd++W2 l
theorem KR.join {P:Program} {G:AG} {l m:List Cd} (h:KR P G l) (k:KR P G m):KR P G (l++m):=by
 induction l with
 | nil=>exact k
 | cons c l ih=>exact ⟨h.1,ih h.2⟩
theorem JS {P:Program} {G:AG} (l:List (PC P G)):KR P G (W2 l):=by
 induction l with
 | nil=>trivial
 | cons p l ih=>exact p.ok.join ih
inductive KI where
 | code (c:Code)
 | endb (id:Nat)
def Ct (P:Program) (G:AG):List KI→(AX→List AV→AS→Prop)→AX→List AV→AS→Prop
 | [],Q=>Q
 | .code k::ks,Q=>gJ P G (XS P G) H0 k (Ct P G ks Q)
 | .endb id::ks,Q=>CK id (Ct P G ks Q)
inductive Sq where
 | at (id:Nat) (c:Code) (ks:List KI)
 | fin (e:AX)
abbrev HR:=Option (Sq×List Hn×List Cd×List AV×AS)
def XO (cd:List Cd):HR→HR
 | some (c,hs,cd',fr,s)=>some (c,hs,cd++cd',fr,s)
 | none=>none
def K1 (r:Code→List KI→List Hn→List AV→AS→HR):List KI→AX→List Hn→List AV→AS→HR
 | [],e,hs,fr,s=>some (.fin e,hs,[],fr,s)
 | .code k::ks,.normal,hs,fr,s=>r k ks hs fr s
 | .code _::ks,e,hs,fr,s=>K1 r ks e hs fr s
 | .endb id::ks,.exit id',hs,fr,s=>(match Nat.beq id' id with
   | true=>K1 r ks .normal hs fr s
   | false=>K1 r ks (.exit id') hs fr s)
 | .endb _::ks,e,hs,fr,s=>K1 r ks e hs fr s
def PI (P:Program) (G:AG):Nat→Code→List KI→List Hn→List AV→AS→HR
 | 0,_,_,_,_,_=>none
 | n+1,c,ks,hs,fr,s=>(match KL c with
   | false=>(match Hw P G c hs fr s with
     | some (e,hs1,cd,fr1,s1)=>XO cd (K1 (PI P G n) ks e hs1 fr1 s1)
     | none=>none)
   | true=>(match c with
     | .seq x y=>PI P G n x (.code y::ks) hs fr s
     | .block id (.loop c)=>some (.at id c ks,hs,[],fr,s)
     | .block id c=>PI P G n c (.endb id::ks) hs fr s
     | .cond q x y=>(match AA G fr q with
       | some (.sc (.bool true))=>PI P G n x ks hs fr s
       | some (.sc (.bool false))=>PI P G n y ks hs fr s
       | _=>none)
     | _=>none))
section
variable {P:Program} {G:AG}
def tW (P:Program) (G:AG) (Q:AX→List AV→AS→Prop) (fr:List AV) (s:AS):Sq→Prop
 | .at id c ks=>WL P G (XS P G) H0 c fr s (CK id (Ct P G ks Q))
 | .fin e=>Q e fr s
theorem Ik {k:Code} {ks:List KI} {Q:AX→List AV→AS→Prop} {e:AX} {fr:List AV} {s:AS} (he:e≠.normal) (h:Ct P G ks Q e fr s):Ct P G (.code k::ks) Q e fr s:=by
 cases e with
 | normal=>exact absurd rfl he
 | exit id=>exact h
 | ret=>exact h
 | pan v=>exact h
theorem UI {r:Code→List KI→List Hn→List AV→AS→HR} {Q:AX→List AV→AS→Prop}
   (hr:∀ (c:Code) (ks:List KI) {sp:Sq} {hs hs':List Hn} {fr fr':List AV} {s s':AS} {cd:List Cd},r c ks hs fr s=some (sp,hs',cd,fr',s')→KR P G cd→tW P G Q fr' s' sp→W P G (XS P G) H0 c fr s (Ct P G ks Q)) :
   ∀ (ks:List KI) (e:AX) {sp:Sq} {hs hs':List Hn} {fr fr':List AV} {s s':AS} {cd:List Cd},K1 r ks e hs fr s=some (sp,hs',cd,fr',s')→KR P G cd→tW P G Q fr' s' sp→Ct P G ks Q e fr s:=by
 intro ks
 induction ks with
 | nil=>intro e sp hs hs' fr fr' s s' cd h hc hk;simp only [K1] at h;cases h;exact hk
 | cons k ks ih =>
   intro e sp hs hs' fr fr' s s' cd h hc hk
   cases k with
   | code c =>
     cases e with
     | normal=>simp only [K1] at h;exact hr c ks h hc hk
     | exit id=>simp only [K1] at h;exact Ik (by simp) (ih _ h hc hk)
     | ret=>simp only [K1] at h;exact Ik (by simp) (ih _ h hc hk)
     | pan v=>simp only [K1] at h;exact Ik (by simp) (ih _ h hc hk)
   | endb id =>
     show Ct P G ks Q (DU id e) fr s
     cases e with
     | normal=>simp only [K1] at h;exact ih _ h hc hk
     | ret=>simp only [K1] at h;exact ih _ h hc hk
     | pan v=>simp only [K1] at h;exact ih _ h hc hk
     | exit id' =>
       simp only [K1] at h
       split at h
       · rename_i hb
         have:=beq_true hb
         subst this
         have e1:DU id' (.exit id')=.normal:=by simp [DU]
         rw [e1]
         exact ih _ h hc hk
       · rename_i hb
         have:=beq_false hb
         have e1:DU id (.exit id')=.exit id':=by simp [DU,this]
         rw [e1]
         exact ih _ h hc hk
theorem U0 {Q:AX→List AV→AS→Prop}:∀ (n:Nat) (c:Code) (ks:List KI) {sp:Sq} {hs hs':List Hn} {fr fr':List AV} {s s':AS} {cd:List Cd},PI P G n c ks hs fr s=some (sp,hs',cd,fr',s')→KR P G cd→tW P G Q fr' s' sp→W P G (XS P G) H0 c fr s (Ct P G ks Q):=by
 intro n
 induction n with
 | zero=>intro c ks sp hs hs' fr fr' s s' cd h;simp only [PI] at h;cases h
 | succ n ih =>
   intro c ks sp hs hs' fr fr' s s' cd h hc hk
   simp only [PI] at h
   split at h
   · split at h
     · rename_i e hs1 cd1 fr1 s1 h1
       unfold XO at h
       split at h
       · rename_i h2
         cases h
         obtain ⟨c1,c2⟩:=hc.SI
         exact ⟨_,_,_,XR c h1 c1,UI ih ks e h2 c2 hk⟩
       · cases h
     · cases h
   · split at h
     · exact qG (ih _ _ h hc hk)
     · cases h
       exact U9 (nS hk)
     · exact U9 (ih _ _ h hc hk)
     · rw [Bh] at h
       split at h
       · rename_i hq;exact fL hq (ih _ _ h hc hk)
       · rename_i hq;exact bV hq (ih _ _ h hc hk)
       · cases h
     · cases h
end
end AI
namespace AI
open Go Go.RowKit
def sub:Code→List Nat→Code
 | c,[]=>c
 | .seq x _,0::l=>sub x l
 | .seq _ y,_::l=>sub y l
 | .cond _ x _,0::l=>sub x l
 | .cond _ _ y,_::l=>sub y l
 | .block _ c,_::l=>sub c l
 | .loop c,_::l=>sub c l
 | c,_=>c
def A4 (fn:Func):Code:=fn.body.getD .skip
def oW (n:Nat):AV→Bool
 | .sc _=>true
 | .any=>true
 | .ptr id _=>Nat.blt id n
 | .mp id=>Nat.blt id n
 | .msl id _ _=>Nat.blt id n
 | _=>false
theorem Yr {n m:Nat} {a:AV} (h:oW n a=true):Fits n m a a:=by
 refine .under ?_
 cases a<;>simp only [oW] at h<;>first | rfl | (cases h;done) | exact decide_eq_true (Nat.le_of_ble_eq_true h)
structure FP (n m:Nat) where
 a:AV
 b:AV
 h:Fits n m a b
structure FB (n m:Nat) where
 a:AF
 b:AF
 h:Jn n m a b
def Tt {n m:Nat}:List (FP n m)→List AV
 | []=>[]
 | p::l=>p.a::Tt l
def Qz {n m:Nat}:List (FP n m)→List AV
 | []=>[]
 | p::l=>p.b::Qz l
def qP {n m:Nat}:List (FB n m)→List AF
 | []=>[]
 | p::l=>p.a::qP l
def hH {n m:Nat}:List (FB n m)→List AF
 | []=>[]
 | p::l=>p.b::hH l
abbrev MR:=Option (List AV×List AV)
def Qp (b:AV):MR→MR
 | some (l,as)=>some (b::l,as)
 | none=>none
def YZ (a b:AV):MR→MR
 | some (l,as)=>some (b::l,a::as)
 | none=>none
def Xn (r:List AV→MR) (n:Nat) (a:AV) (bs:List AV):MR:=match oW n a with
 | true=>Qp a (r bs)
 | false=>none
def eB (r:List AV→MR) (a:AV):List AV→MR
 | b::bs=>YZ a b (r bs)
 | []=>none
def QG (r:List AV→MR) (a:AV) (bs:List AV):MR:=match Mn a with
 | true=>Qp .any (r bs)
 | false=>none
def PN (n:Nat):List AV→Nat→List Nat→List AV→MR
 | [],_,_,[]=>some ([],[])
 | [],_,_,_::_=>none
 | a::l,i,[],bs=>QG (PN n l (i+2) []) a bs
 | a::l,i,t::ts,bs=>(match Nat.beq t i with
   | true=>Xn (PN n l (i+2) ts) n a bs
   | false=>(match Nat.beq t (i+1) with
     | true=>eB (PN n l (i+2) ts) a bs
     | false=>QG (PN n l (i+2) (t::ts)) a bs))
section
variable {n m:Nat} {r:List AV→MR} {l:List AV} (hr:∀ (fps:List (FP n m)) l2,r (Qz fps)=some (l2,Tt fps)→Fu n m l l2) {a:AV} {fps:List (FP n m)} {l2:List AV}
include hr
theorem Zw (h:Xn r n a (Qz fps)=some (l2,Tt fps)):Fu n m (a::l) l2:=by
 unfold Xn at h
 split at h
 · rename_i ho
   unfold Qp at h
   split at h
   · rename_i l3 as h1
     cases h
     exact .cons (Yr ho) (hr fps _ h1)
   · cases h
 · cases h
theorem Va (h:eB r a (Qz fps)=some (l2,Tt fps)):Fu n m (a::l) l2:=by
 cases fps with
 | nil=>cases h
 | cons p fps =>
   simp only [Qz,eB] at h
   unfold YZ at h
   split at h
   · rename_i l3 as h1
     simp only [Tt,Option.some.injEq,Prod.mk.injEq,List.cons.injEq] at h
     obtain ⟨rfl,rfl,rfl⟩:=h
     exact .cons p.h (hr fps _ h1)
   · cases h
theorem L2 (h:QG r a (Qz fps)=some (l2,Tt fps)):Fu n m (a::l) l2:=by
 unfold QG at h
 split at h
 · rename_i hd
   unfold Qp at h
   split at h
   · rename_i l3 as h1
     cases h
     exact .cons (.drop hd) (hr fps _ h1)
   · cases h
 · cases h
end
theorem fJ {n m:Nat}:∀ {l:List AV} {i:Nat} {ts:List Nat} {fps:List (FP n m)} {l2:List AV},PN n l i ts (Qz fps)=some (l2,Tt fps)→Fu n m l l2:=by
 intro l
 induction l with
 | nil =>
   intro i ts fps l2 h
   cases fps with
   | nil=>simp only [Qz,PN] at h;cases h;exact .nil
   | cons p fps=>simp only [Qz,PN] at h;cases h
 | cons a l ih =>
   intro i ts fps l2 h
   cases ts with
   | nil=>simp only [PN] at h;exact L2 (fun fps l2 h=>ih h) h
   | cons t ts =>
     simp only [PN] at h
     split at h
     · exact Zw (fun fps l2 h=>ih h) h
     · split at h
       · exact Va (fun fps l2 h=>ih h) h
       · exact L2 (fun fps l2 h=>ih h) h
abbrev BR:=Option (List (Nat×AF)×List AF)
def iL (id:Nat) (a b:AF):BR→BR
 | some (l,as)=>some ((id,b)::l,a::as)
 | none=>none
def Uj:List (Nat×AF)→List AF→BR
 | [],[]=>some ([],[])
 | e::l,b::bs=>iL e.1 e.2 b (Uj l bs)
 | _,_=>none
theorem fB {n m:Nat}:∀ {l:List (Nat×AF)} {fbs:List (FB n m)} {l2:List (Nat×AF)},Uj l (hH fbs)=some (l2,qP fbs)→(∀ k,E5 l k→E5 l2 k)∧∀ id b,look id l2=some b→∃ b',look id l=some b'∧Jn n m b' b:=by
 intro l
 induction l with
 | nil =>
   intro fbs l2 h
   cases fbs with
   | nil=>simp only [hH,Uj] at h;cases h;exact ⟨fun _ _=>trivial,fun id b h=>by cases h⟩
   | cons p fbs=>simp only [hH,Uj] at h;cases h
 | cons e l ih =>
   intro fbs l2 h
   cases fbs with
   | nil=>simp only [hH,Uj] at h;cases h
   | cons p fbs =>
     simp only [hH,Uj] at h
     unfold iL at h
     split at h
     · rename_i l3 as h1
       simp only [qP,Option.some.injEq,Prod.mk.injEq,List.cons.injEq] at h
       obtain ⟨rfl,h2,rfl⟩:=h
       obtain ⟨hd,hl⟩:=ih h1
       refine ⟨fun k hk=>⟨hk.1,hd _ hk.2⟩,fun id b hb=>?_⟩
       simp only [look] at hb ⊢
       split at hb
       · cases hb;exact ⟨e.2,rfl,by rw [h2];exact p.h⟩
       · exact hl id b hb
     · cases h
def Nz (m:Nat):List (Nat×Nat)→List (Nat×Nat)
 | []=>[]
 | x::l=>match Nat.blt x.1 m with
   | true=>x::Nz m l
   | false=>Nz m l
theorem Tb {m r n:Nat} {l:List (Nat×Nat)} (h:Cf r (Nz m l)=some n):Cf r l=some n∧r < m:=by
 induction l with
 | nil=>cases h
 | cons x l ih =>
   simp only [Nz] at h
   split at h
   · rename_i hb
     simp only [Cf] at h ⊢
     split at h
     · rename_i h1
       have:=beq_true h1
       subst this
       cases h
       exact ⟨rfl,Nat.le_of_ble_eq_true hb⟩
     · exact ih h
   · rename_i hb
     obtain ⟨h1,h2⟩:=ih h
     refine ⟨?_,h2⟩
     simp only [Cf]
     split
     · rename_i h3
       have:=beq_true h3
       subst this
       rw [show Nat.blt x.1 m=true from Nat.ble_eq_true_of_le h2] at hb
       cases hb
     · exact h1
section
variable {P:Program} {G:AG}
def Wk (G:AG) (s0:AS) (fr':List AV) (s':AS) (fr2:List AV) (s2:AS):Prop:=∀ (cx:Cx) (w:World) (c':Cx) (w':World) (vs:List Value),Ext cx w c' w'→St G cx w s0→St G c' w' s'→BD c' w' fr' vs→∃ c2,Ext cx w c2 w'∧St G c2 w' s2∧BD c2 w' fr2 vs
abbrev RR:=Option (List AV×AS×List AV×List AF)
def jE (live:List Nat) (n m:Nat) (fr':List AV) (s':AS) (bs:List AV) (cs:List AF):RR :=
 match PN n fr' 0 live bs with
 | some (fr2,as)=>(match Uj (K9 n s'.h) cs with
   | some (h2,cas)=>some (fr2,⟨h2,n,Nz m s'.F,m⟩,as,cas)
   | none=>none)
 | none=>none
theorem Sd {l:List (Nat×AF)} {N n:Nat} (h:E5 l N):E5 (K9 n l) n:=by
 induction l generalizing N with
 | nil=>trivial
 | cons e l ih =>
   simp only [K9]
   split
   · exact ih h.2
   · rename_i hb
     refine ⟨?_,h.2⟩
     have:¬ n≤e.1:=fun hle=>by rw [Nat.ble_eq_true_of_le hle] at hb;cases hb
     omega
def MT (P:Program) (G:AG) (L:Code) (s0:AS) (Q:AX→List AV→AS→Prop):AX→List AV→AS→Prop
 | .normal,fr',s'=>∃ fr2 s2,Wk G s0 fr' s' fr2 s2∧WL P G (XS P G) H0 L fr2 s2 Q
 | .exit id,fr',s'=>∃ fr2 s2,Wk G s0 fr' s' fr2 s2∧Q (.exit id) fr2 s2
 | e,fr',s'=>Q e fr' s'
theorem Ry {L:Code} {fr:List AV} {s:AS} {Q:AX→List AV→AS→Prop} (h:W P G (XS P G) H0 L fr s (MT P G L s Q)):WL P G (XS P G) H0 L fr s Q:=by
 obtain ⟨e,fr',s',hj,h2⟩:=h
 cases e with
 | normal =>
   obtain ⟨fr2,s2,hf,e3,fr3,s3,h3,h4⟩:=h2
   exact ⟨e3,fr3,s3,.loopN (.scope hj (fun _ h=>by cases h) (fun cx w c' w' vs hx hs hs' hfr=>hf cx w c' w' vs hx hs hs' hfr)) h3,h4⟩
 | exit id =>
   obtain ⟨fr2,s2,hf,h4⟩:=h2
   exact ⟨_,_,_,.loopX (.scope hj (fun _ h=>by cases h) (fun cx w c' w' vs hx hs hs' hfr=>hf cx w c' w' vs hx hs hs' hfr)) (by simp),h4⟩
 | ret=>exact ⟨_,_,_,.loopX hj (by simp),h2⟩
 | pan v=>exact ⟨_,_,_,.loopX hj (by simp),h2⟩
def Kh (P:Program) (fn:Func) (m:Nat) (Q:AX→List AV→AS→Prop) (v:AV) (s2:AS):Prop:=∀ fr s,DP P s fn fr=some v→s.cut m=s2→Q .ret fr s
def LV (m:Nat) (Q:AX→List AV→AS→Prop) (v:AV) (s2:AS):Prop:=∀ fr s,s.cut m=s2→Q (.pan v) fr s
theorem V7 {ks:List KI} {Q:AX→List AV→AS→Prop} {fr:List AV} {s:AS} (h:Q .ret fr s):Ct P G ks Q .ret fr s:=by
 induction ks with
 | nil=>exact h
 | cons k ks ih=>cases k<;>exact ih
theorem Wj {ks:List KI} {Q:AX→List AV→AS→Prop} {fr:List AV} {s:AS} {v:AV} (h:Q (.pan v) fr s):Ct P G ks Q (.pan v) fr s:=by
 induction ks with
 | nil=>exact h
 | cons k ks ih=>cases k<;>exact ih
theorem Kh.body {fn:Func} {m:Nat} {Q:CR→AS→Prop} {v:AV} {s2:AS} (h:Q (.ret v) s2):Kh P fn m (Md P fn m Q) v s2:=fun fr s h1 h2=>⟨v,h1,by rw [h2];exact h⟩
theorem LV.body {fn:Func} {m:Nat} {Q:CR→AS→Prop} {v:AV} {s2:AS} (h:Q (.pan v) s2):LV m (Md P fn m Q) v s2:=fun fr s h2=>by show Q (.pan v) (s.cut m);rw [h2];exact h
theorem Kh.outer {fn:Func} {m id:Nat} {ks:List KI} {Q:AX→List AV→AS→Prop} {v:AV} {s2:AS} (h:Kh P fn m Q v s2):Kh P fn m (CK id (Ct P G ks Q)) v s2:=fun fr s h1 h2=>V7 (h fr s h1 h2)
theorem LV.outer {m id:Nat} {ks:List KI} {Q:AX→List AV→AS→Prop} {v:AV} {s2:AS} (h:LV m Q v s2):LV m (CK id (Ct P G ks Q)) v s2:=fun fr s h1=>Wj (h fr s h1)
theorem Kh.GX {fn:Func} {m:Nat} {L:Code} {s0:AS} {Q:AX→List AV→AS→Prop} {v:AV} {s2:AS} (h:Kh P fn m Q v s2):Kh P fn m (MT P G L s0 Q) v s2:=h
theorem LV.GX {m:Nat} {L:Code} {s0:AS} {Q:AX→List AV→AS→Prop} {v:AV} {s2:AS} (h:LV m Q v s2):LV m (MT P G L s0 Q) v s2:=h
def s6 (P:Program) (fn:Func) (m:Nat):HR→Option (List Cd×AV×AS)
 | some (.fin .ret,[],cd,fr,s)=>(match DP P s fn fr with
   | some v=>some (cd,v,s.cut m)
   | none=>none)
 | _=>none
def NU (P:Program) (G:AG) (_l:List (PC P G)) (Q:AX→List AV→AS→Prop) (r:HR) (X:Prop):Prop:=∀ sp cd fr' s',r=some (sp,[],cd,fr',s')→KR P G cd→tW P G Q fr' s' sp→X
theorem Aa {c:Code} {fr:List AV} {s:AS} {Q:AX→List AV→AS→Prop} (n:Nat) (l:List (PC P G)):NU P G l Q (PI P G n c [] (uT l) fr s) (W P G (XS P G) H0 c fr s Q):=fun _ _ _ _ h hc hk=>U0 n c [] h hc hk
theorem go_ret {r:HR} {X:Prop} {Q:AX→List AV→AS→Prop} (fn:Func) (m:Nat) {l:List (PC P G)} (v:AV) (s2:AS) (R:NU P G l Q r X) (h:s6 P fn m r=some (W2 l,v,s2)) (k:Kh P fn m Q v s2):X:=by
 unfold s6 at h
 split at h
 · rename_i cd fr' s'
   split at h
   · rename_i v' hv
     simp only [Option.some.injEq,Prod.mk.injEq] at h
     obtain ⟨rfl,rfl,rfl⟩:=h
     exact R _ _ _ _ rfl (JS l) (k _ _ hv rfl)
   · cases h
 · cases h
def TY (a:AV):AV:=match Mn a with
 | true=>.any
 | false=>a
theorem VX {a:AV} {c:Cx} {w:World} {v:Value} (hr:Rp c w a v):Rp c w (TY a) v:=by
 unfold TY
 split
 · rename_i h;exact .any (Lq hr h)
 · exact hr
inductive Lp (γ δ ρ:Type) where
 | nx (x:γ)
 | ex (x:δ)
 | rt (r:ρ)
section loops
variable {α γ δ ρ:Type}
def GB (k:γ→Option (δ⊕ρ)):Lp γ δ ρ→Option (δ⊕ρ)
 | .nx x=>k x
 | .ex d=>some (.inl d)
 | .rt r=>some (.inr r)
def AT (body:Nat→α→γ→Option (Lp γ δ ρ)) (done:γ→δ):List α→Nat→γ→Option (δ⊕ρ)
 | [],_,x=>some (.inl (done x))
 | y::l,i,x=>(body i y x).bind (GB (AT body done l (i+1)))
def RF (body:Nat→γ→Option (Lp γ δ ρ)) (done:γ→δ):Nat→Nat→γ→Option (δ⊕ρ)
 | 0,_,x=>some (.inl (done x))
 | d+1,i,x=>(body i x).bind (GB (RF body done d (i+1)))
def Gy {β:Type} (n:Nat) (x:Option β):Option β:=if n≤9223372036854775807 then x else none
theorem tD {β:Type} {n:Nat} {x:Option β} {r:β} (h:Gy n x=some r):n≤9223372036854775807∧x=some r:=by
 unfold Gy at h
 split at h
 · rename_i h1;exact ⟨h1,h⟩
 · cases h
theorem u5 {β:Type} {b:Bool} {t f:Option β} {r:β} (h:cond b t f=some r):(b=true∧t=some r)∨(b=false∧f=some r):=by
 cases b
 · exact .inr ⟨rfl,h⟩
 · exact .inl ⟨rfl,h⟩
theorem VW {β κ:Type} {m:Option κ} {k:κ→Option β} {r:β} (h:m.bind k=some r):∃ y,m=some y∧k y=some r:=by
 cases m with
 | none=>cases h
 | some y=>exact ⟨y,rfl,h⟩
def LQ (Qx:δ→Prop) (Qr:ρ→Prop):δ⊕ρ→Prop
 | .inl x=>Qx x
 | .inr r=>Qr r
def RQ (Qn:γ→Prop) (Qx:δ→Prop) (Qr:ρ→Prop):Lp γ δ ρ→Prop
 | .nx x=>Qn x
 | .ex x=>Qx x
 | .rt r=>Qr r
theorem dD {J:Type} {L:Code} {Q:AX→List AV→AS→Prop} {body:Nat→α→γ→Option (Lp γ δ ρ)} {done:γ→δ} (l:List α) (F:Nat→γ→J→List AV) (S:Nat→γ→J→AS) (Ok:J→Prop) (Qx:δ→Prop) (Qr:ρ→Prop)
   (hz:∀ i x j,Ok j→l.length≤i→Qx (done x)→WL P G (XS P G) H0 L (F i x j) (S i x j) Q)
   (hs:∀ i y x j r,Ok j→l[i]?=some y→i < l.length→body i y x=some r→RQ (fun x'=>∀ j',Ok j'→WL P G (XS P G) H0 L (F (i+1) x' j') (S (i+1) x' j') Q) Qx Qr r→WL P G (XS P G) H0 L (F i x j) (S i x j) Q) :
   ∀ {x:γ} {res:δ⊕ρ} (i0:Nat),AT body done (l.drop i0) i0 x=some res→LQ Qx Qr res→∀ j,Ok j→WL P G (XS P G) H0 L (F i0 x j) (S i0 x j) Q:=by
 have key:∀ (k:List α) (i:Nat) (x:γ) (res:δ⊕ρ),l.drop i=k→AT body done k i x=some res→LQ Qx Qr res→∀ j,Ok j→WL P G (XS P G) H0 L (F i x j) (S i x j) Q:=by
   intro k
   induction k with
   | nil =>
     intro i x res hd h hq j hj
     simp only [AT,Option.some.injEq] at h
     subst h
     exact hz i x j hj (List.drop_eq_nil_iff.1 hd) hq
   | cons y k ih =>
     intro i x res hd h hq j hj
     have hi:i < l.length:=by
       rcases Nat.lt_or_ge i l.length with h1 | h1
       · exact h1
       · rw [List.drop_eq_nil_of_le h1] at hd;cases hd
     have hy:l[i]?=some y:=by rw [← List.head?_drop,hd];rfl
     have hd2:l.drop (i+1)=k:=by rw [← List.tail_drop,hd];rfl
     obtain ⟨r,hb,h⟩:=VW h
     refine hs i y x j r hj hy hi hb ?_
     cases r with
     | nx x'=>exact fun j' hj'=>ih (i+1) x' res hd2 h hq j' hj'
     | ex d=>simp only [GB,Option.some.injEq] at h;subst h;exact hq
     | rt v=>simp only [GB,Option.some.injEq] at h;subst h;exact hq
 intro x res i0 h hq j hj
 exact key _ i0 x res rfl h hq j hj
theorem kO {J:Type} {L:Code} {Q:AX→List AV→AS→Prop} {body:Nat→γ→Option (Lp γ δ ρ)} {done:γ→δ} (n:Nat) (F:Nat→γ→J→List AV) (S:Nat→γ→J→AS) (Ok:J→Prop) (Qx:δ→Prop) (Qr:ρ→Prop)
   (hz:∀ x j,Ok j→Qx (done x)→WL P G (XS P G) H0 L (F n x j) (S n x j) Q)
   (hs:∀ i x j r,Ok j→i < n→body i x=some r→RQ (fun x'=>∀ j',Ok j'→WL P G (XS P G) H0 L (F (i+1) x' j') (S (i+1) x' j') Q) Qx Qr r→WL P G (XS P G) H0 L (F i x j) (S i x j) Q) :
   ∀ {x:γ} {res:δ⊕ρ},RF body done n 0 x=some res→LQ Qx Qr res→∀ j,Ok j→WL P G (XS P G) H0 L (F 0 x j) (S 0 x j) Q:=by
 have key:∀ (d i:Nat) (x:γ) (res:δ⊕ρ),i+d=n→RF body done d i x=some res→LQ Qx Qr res→∀ j,Ok j→WL P G (XS P G) H0 L (F i x j) (S i x j) Q:=by
   intro d
   induction d with
   | zero =>
     intro i x res hl h hq j hj
     simp only [RF,Option.some.injEq] at h
     subst h
     have:i=n:=by simpa using hl
     subst this
     exact hz x j hj hq
   | succ d ih =>
     intro i x res hl h hq j hj
     obtain ⟨r,hb,h⟩:=VW h
     refine hs i x j r hj (by omega) hb ?_
     cases r with
     | nx x'=>exact fun j' hj'=>ih (i+1) x' res (by omega) h hq j' hj'
     | ex d=>simp only [GB,Option.some.injEq] at h;subst h;exact hq
     | rt v=>simp only [GB,Option.some.injEq] at h;subst h;exact hq
 intro x res h hq j hj
 exact key n 0 x res (by simp) h hq j hj
end loops
end
end AI
