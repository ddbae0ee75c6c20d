/- Part of a proof: see the last text. -/
import Derived.Test.YtnijkdknnmgoeaaGreatCme
set_option linter.unusedVariables false
set_option linter.unusedSimpArgs false
set_option linter.defProp false
noncomputable section
namespace AI
open Go Go.RowKit
def eqV:Value->Value->Bool
 | .string a,.string b=>By a.data.toList b.data.toList
 | .int k a,.int k' b=>(match sameKind k k' with | true=>Ba a b | false=>false)
 | a,b=>aji a b
def anE{a b:Value}(h:eqV a b=true):a=b:=by
 unfold eqV at h;split at h;rename_i x y;rw[c8,beq_iff_eq] at h;have:x=y:=ByteArray.ext (Array.ext' h);rw[this];split at h;rename_i hk;rw[RU,beq_iff_eq] at h;rw[ZW hk,h];cases h;exact zR h
def ajZ:Own->Own->Bool
 | .full,.full=>true
 | .lost,.lost=>true
 | .nil,.nil=>true
 | .nn,.nn=>true
 | _,_=>false
def acN{a b:Own}(h:ajZ a b=true):a=b:=by cases a<;>cases b<;>first | rfl | cases h
mutual
def kZ:AV->AV->Bool
 | .sc a,.sc b=>eqV a b
 | .agg a,.agg b=>eqL a b
 | .Bj a,.Bj b=>eqL a b
 | .sl o n a,.sl p m b=>(match ajZ o p with
   | true=>(match Nat.beq n m with | true=>eqL a b | false=>false)
   | false=>false)
 | .TW t a,.TW u b=>(match Nat.beq t u with | true=>kZ a b | false=>false)
 | _,_=>false
def eqL:List AV->List AV->Bool
 | [],[]=>true
 | a::as,b::bs=>(match kZ a b with | true=>eqL as bs | false=>false)
 | _,_=>false
end
mutual
def wE:∀{a b:AV},kZ a b=true->a=b
 | .sc a,b,h=>by
   cases b<;>first
     | (simp only[kZ] at h;rw[anE h])
     | (simp[kZ] at h;done)
 | .agg a,b,h=>by
   cases b<;>first
     | (simp only[kZ] at h;rw[U5 h])
     | (simp[kZ] at h;done)
 | .Bj a,b,h=>by
   cases b<;>first
     | (simp only[kZ] at h;rw[U5 h])
     | (simp[kZ] at h;done)
 | .sl o n a,b,h=>by
   cases b<;>first
     | (simp only[kZ] at h
        split at h;rename_i h1;split at h;rename_i h2;rw[acN h1,beq_true h2,U5 h];cases h;cases h)
     | (simp[kZ] at h;done)
 | .TW t a,b,h=>by
   cases b<;>first
     | (simp only[kZ] at h
        split at h;rename_i h1;rw[beq_true h1,wE h];cases h)
     | (simp[kZ] at h;done)
 | .G2 _ _ _,b,h=>by simp[kZ] at h
 | .el _,b,h=>by simp[kZ] at h
 | .ptr _ _,b,h=>by simp[kZ] at h
 | .fn _ _ _,b,h=>by simp[kZ] at h
 | .mp _,b,h=>by simp[kZ] at h
 | .any,b,h=>by simp[kZ] at h
def U5:∀{a b:List AV},eqL a b=true->a=b
 | [],b,h=>by cases b<;>first | rfl | (simp[eqL] at h;done)
 | a::as,b,h=>by
   cases b<;>first
     | (simp[eqL] at h;done)
     | (simp only[eqL] at h
        split at h;rename_i h1;rw[wE h1,U5 h];cases h)
end
structure CH where
 f:Nat
 args:List AV
 box:Option (List AV×List AV)
 v:AV
def AE(P:Program)(G:Bh)(e:CH):Prop:=match e.box with
 | none=>∀s,Sound P G (.call e.f e.args s (.ret e.v) s)
 | some (cs,uY)=>∀s id,s.get id=some (.cells cs)->Sound P G (.call e.f (.ptr id 0::e.args) s (.ret e.v) (s.put id (.cells uY)))
def afj(id:Nat)(s:AS)(args:List AV)(e:CH):Option (List AV×List AV)->Option (CR×AS)
 | some (cs,uY)=>(match s.get id with
   | some (.cells ds)=>(match eqL ds.reverse cs.reverse with
     | true=>(match eqL args e.args with
       | true=>some (.ret e.v,s.put id (.cells uY))
       | false=>none)
     | false=>none)
   | _=>none)
 | none=>none
def hit(args:List AV)(s:AS)(e:CH):Option (CR×AS) :=
 match args with
 | .ptr id 0::rest=>afj id s rest e e.box
 | args=>(match e.box with
   | none=>(match eqL args.reverse e.args.reverse with
     | true=>some (.ret e.v,s)
     | false=>none)
   | some _=>none)
def find(f:Nat)(args:List AV)(s:AS):List CH->Option (CR×AS)
 | []=>none
 | e::l=>(match Nat.beq e.f f with
   | true=>(match hit args s e with
     | some r=>some r
     | none=>find f args s l)
   | false=>find f args s l)
def anr{P:Program}{G:Bh}{args:List AV}{s s':AS}{e:CH}{r:CR}(he:AE P G e)(h:hit args s e=some (r,s')):Sound P G (.call e.f args s r s'):=by
 unfold hit at h;split at h;rename_i id rest;unfold AE at he;cases hb:e.box with
 | none=>rw[hb] at h;cases h
 | some q =>
   obtain⟨cs,uY⟩:=q;rw[hb] at h he;simp only[afj] at h;split at h;rename_i ds hg;split at h;rename_i h1;split at h;rename_i h2;cases h;have e1:=List.reverse_inj.1 (U5 h1);have e2:=U5 h2;subst e1;rw[e2];exact he s id hg;cases h;cases h;cases h
 unfold AE at he;cases hb:e.box with
 | some q=>rw[hb] at h;cases h
 | none =>
   rw[hb] at h he;simp only at h;split at h;rename_i h1;cases h;have e1:=List.reverse_inj.1 (U5 h1);rw[e1];exact he _;cases h
def ai8{P:Program}{G:Bh}{f:Nat}{args:List AV}{s s':AS}{l:List CH}{r:CR}(hl:∀e∈l,AE P G e)(h:find f args s l=some (r,s')):Sound P G (.call f args s r s'):=by
 induction l with
 | nil=>cases h
 | cons e l ih =>
   simp only[find] at h;split at h;rename_i hf;split at h;rename_i q hh;cases h;have:=anr (hl e List.mem_cons_self) hh;rw[beq_true hf] at this;exact this;exact ih (λe he=>hl e (List.mem_cons_of_mem _ he)) h;exact ih (λe he=>hl e (List.mem_cons_of_mem _ he)) h
def eJ(e:CH):Option Rs->Bool
 | some (.call (.ret v) s)=>(match Vp v with
   | true=>(match kZ (RW v) e.v with
     | true=>(match e.box with
       | none=>true
       | some (_,uY)=>(match s.get 0 with
         | some (.cells ds)=>(match KU ds with
           | true=>eqL (YC ds) uY
           | false=>false)
         | _=>false))
     | false=>false)
   | false=>false)
 | _=>false
def PV(e:CH):Tk:=match e.box with
 | none=>.call e.f e.args s0
 | some (cs,_)=>.call e.f (.ptr 0 0::e.args) ⟨[(0,.cells cs)],1,[],0⟩
def eP(e:CH):Bool:=Bx e.args&&(match e.box with
 | none=>true
 | some (cs,_)=>Bx cs)
def aej{P:Program}{G:Bh}{X:Z5}{H:SS}(hg:rO P G (XP X) H)(hG:∀g cs,G g=some cs->Bx cs=true){n:Nat}{e:CH}(hp:eP e=true)(h:eJ e (goR P G X H n (PV e))=true):AE P G e:=by
 unfold eP at hp;rw[Bool.and_eq_true] at hp;cases hr:goR P G X H n (PV e) with
 | none=>rw[hr] at h;cases h
 | some rs =>
   rw[hr] at h;have hrt:=alQ n _ _ hr;cases rs with
   | code e fr s=>cases h
   | tr t fr s=>cases h
   | call c s =>
     cases c with
     | Mq v=>cases h
     | ret v =>
       simp only[eJ] at h;split at h;rename_i hb;split at h;rename_i he;have ev:=wE he;unfold AE;cases hbx:e.box with
       | none =>
         intro s';unfold PV at hrt;rw[hbx] at hrt;have:=tO hG (sound hg hrt) hp.1 hb s';rw[ev] at this;exact this
       | some q =>
         obtain⟨cs,uY⟩:=q;intro s' id hid;unfold PV at hrt;rw[hbx] at hrt h hp;simp only at h hp;split at h;rename_i ds hds;split at h;rename_i hbd;have ec:=U5 h;have:=sT hG (sound hg hrt) hds hp.1 hp.2 hb hbd s' id hid;rw[ev,ec] at this;exact this;cases h;cases h
       cases h;cases h
def Am.cons{P:Program}{G:Bh}{e:CH}{l:List CH}(he:AE P G e)(hl:∀e∈l,AE P G e):∀e'∈e::l,AE P G e':=λe' h=>by
 rcases List.mem_cons.1 h with h | h
 rw[h];exact he;exact hl e' h
end AI
namespace AI
open Go Go.RowKit
inductive Hn where
 | k
 | b (b:Bool)
 | i (z:Int)
 | w (v:AV)
 | a (v:AV) (s:AS)
 | ae (v:AV)
 | m (s:AS)
 | l (v:AV)
 | s (s:AS)
 | c (v:AV) (s:AS)
 | o (v:AV)
 | z (c:Nat)
 | p (v:AV) (s:AS)
 | g (sz k:Nat) (cs:List AV)
 | u (v:AV) (pre:List (Nat×Bb)) (tp:List (Nat×Nat)) (W4:List (Nat×Bb)) (tu:List (Nat×Nat))
 | q (v:AV) (pre:List (Nat×Bb)) (tp:List (Nat×Nat)) (W4:List (Nat×Bb)) (tu:List (Nat×Nat))
 | n (l:List NZ)
 | x (b:Bb) (v:AV)
 | y (b b2:Bb)
 | lb (m:Bb) (v:AV)
 | sb (m m2:Bb)
 | mb (n:Nat) (m:Bb)
 | za
 | cn (v:AV) (h:List (Nat×Bb)) (dn:Nat) (F:List (Nat×Nat)) (dr:Nat)
 | f (id:Nat) (b b2:Bb)
inductive Cd where
 | eqb (B b:Bool)
 | eqi (X z:Int)
 | idx (t:TypeId) (a b v:AV)
 | bin (op:BinOp) (t:TypeId) (x y:Operand) (a b v:AV)
 | call (f:FuncId) (args:List AV) (s:AS) (v:AV)
 | bV (s:AS) (t tx:TypeId) (a b v:AV) (s1:AS)
 | ix (t:TypeId) (a b v:AV)
 | lk (s:AS) (t:TypeId) (a b:AV) (ok:Bool) (v:AV)
 | ms (s:AS) (t:TypeId) (a b v:AV) (s1:AS)
 | akr (f:FuncId) (args:List AV) (s:AS) (v:AV) (s1:AS)
 | ld (s:AS) (t:TypeId) (a v:AV)
 | st (s:AS) (t:TypeId) (a x:AV) (s1:AS)
 | mk (s:AS) (t:TypeId) (a b v:AV) (s1:AS)
 | sli (t:TypeId) (a:AV) (l h m:Option AV) (v:AV)
 | aku (f:FuncId) (args:List AV) (s:AS) (v:AV) (s1:AS)
 | pur (f:FuncId) (args:List AV) (v:AV)
 | Z2 (t tx:TypeId) (own:Own) (n:Nat) (cs:List AV) (b:AV) (sz k:Nat) (cs2:List AV)
 | eqn (k n:Nat)
 | H4 (f:FuncId) (args:List AV) (r:CR) (pre:List (Nat×Bb)) (tp:List (Nat×Nat)) (W4:List (Nat×Bb)) (tu:List (Nat×Nat))
 | zF (a b:List (Option Bb)) (c d:List (Option Nat))
 | uZ (b:Bb) (t:TypeId) (k:AV) (ok:Bool) (v:AV)
 | msB (b:Bb) (t:TypeId) (k v:AV) (b2:Bb)
 | ldB (b:Bb) (t:TypeId) (off:Nat) (v:AV)
 | stB (b:Bb) (t:TypeId) (off:Nat) (x:AV) (b2:Bb)
 | mkB (t:TypeId) (a x:AV) (n:Nat) (m:Bb)
 | apB (t tx:TypeId) (a b:AV) (n:Nat) (m:Bb)
 | YH (f:FuncId) (args:List AV) (nx nr:Nat) (v:AV) (h:List (Nat×Bb)) (dn:Nat) (F:List (Nat×Nat)) (dr:Nat)
 | rd (nr:Nat) (b b2:Bb)
def AS.ZA(s:AS):List (Nat×Bb)->AS
 | []=>s
 | e::l=>(s.put e.1 e.2).ZA l
def AS.V5(s:AS):List (Nat×Nat)->AS
 | []=>s
 | e::l=>(AS.mk s.h s.nx (ab6 e.1 e.2 s.F) s.nr).V5 l
def hX(s:AS):List (Nat×Bb)->List (Option Bb)
 | []=>[]
 | e::l=>s.get e.1::hX s l
def Vb:List (Nat×Bb)->List (Option Bb)
 | []=>[]
 | e::l=>some e.2::Vb l
def kX(F:List (Nat×Nat)):List (Nat×Nat)->List (Option Nat)
 | []=>[]
 | e::l=>Ec e.1 F::kX F l
def V2:List (Nat×Nat)->List (Option Nat)
 | []=>[]
 | e::l=>some e.2::V2 l
def Cd.ok(P:Program)(G:Bh):Cd->Prop
 | .eqb B b=>B=b
 | .eqi X z=>X=z
 | .idx t a b v=>BW P t a b=some v
 | .bin op t x y a b v=>L2 P op t x y a b=some v
 | .call f args s v=>Sound P G (.call f args s (.ret v) s)
 | .bV s t tx a b v s1=>∃v0,PR P s t tx a b=some (v0,s1)/\∀c w u,Rp c w v0 u->Rp c w v u
 | .ix t a b v=>Oq P t a b=some v
 | .lk s t a b ok v=>H3 P s t a b ok=some v
 | .ms s t a b v s1=>K9 P s t a b v=some s1
 | .akr f args s v s1=>Sound P G (.call f args s (.ret v) s1)
 | .ld s t a v=>Lk P s t a=some v
 | .st s t a x s1=>MX P s t a x=some s1
 | .mk s t a b v s1=>Iq P s t a b=some (v,s1)
 | .sli t a l h m v=>KL P t a l h m=some v
 | .aku f args s v s1=>Sound P G (.call f args s (.Mq v) s1)
 | .pur f args v=>∀s,Sound P G (.call f args s (.ret v) s)
 | .Z2 t tx own n cs b sz k cs2=>∀s:AS,QR sz s.F n own=true->∃cs0,PR P s t tx (.sl own n cs) b=some (.sl (akE s sz own) k cs0,s.to k own)/\∀c w u o,Rp c w (.sl o k cs0) u->Rp c w (.sl o k cs2) u
 | .eqn k n=>k=n
 | .H4 f args r pre tp W4 tu=>∀s:AS,hX s pre=Vb pre->kX s.F tp=V2 tp->Sound P G (.call f args s r ((s.ZA W4).V5 tu))
 | .zF a b c d=>a=b/\c=d
 | .uZ b t k ok v=>∀(s:AS) (id:Nat),s.get id=some b->H3 P s t (.mp id) k ok=some v
 | .msB b t k v b2=>∀(s:AS) (id:Nat),s.get id=some b->K9 P s t (.mp id) k v=some (s.put id b2)
 | .ldB b t off v=>∀(s:AS) (id:Nat),s.get id=some b->Lk P s t (.ptr id off)=some v
 | .stB b t off x b2=>∀(s:AS) (id:Nat),s.get id=some b->MX P s t (.ptr id off) x=some (s.put id b2)
 | .mkB t a x n m=>∀s:AS,∃m0,Iq P s t a x=some (.G2 s.nx 0 n,s.new m0)/\∀(cx:Cx) (w:World) (o:Obj),FR cx w m0 o->FR cx w m o
 | .apB t tx a b n m=>∀s:AS,aqX P G t tx a b s (.G2 s.nx 0 n) (s.new m)
 | .YH f args nx nr v h dn F dr=>∀s:AS,s.nx=nx->s.nr=nr->Sound P G (.call f args s (.ret v) ⟨h++s.h,s.nx+dn,F++s.F,s.nr+dr⟩)
 | .rd nr b b2=>∀(cx:Cx) (w:World) (o:Obj),nr < cx.rows.length->FR cx w b o->FR cx w b2 o
def Vn(P:Program)(G:Bh):List Cd->Prop
 | []=>True
 | c::l=>c.ok P G/\Vn P G l
def Vn.bV{P:Program}{G:Bh}{l m:List Cd}(h:Vn P G (l++m)):Vn P G l/\Vn P G m:=by
 induction l with
 | nil=>exact⟨trivial,h⟩
 | cons c l ih=>exact⟨⟨h.1,(ih h.2).1⟩,(ih h.2).2⟩
abbrev HO:=Option (AV×AS×List Hn×List Cd)
def Oc(s1:Option AR)(hs:List Hn):HO:=match s1 with
 | some (.val v s)=>some (v,s,hs,[])
 | _=>none
def aoZ(P:Program)(op:BinOp)(t:TypeId)(x y:Operand)(a b:AV)(s:AS):List Hn->HO
 | .k::hs=>(match iI P op t x y a b with
   | some v=>some (v,s,hs,[])
   | none=>none)
 | .b c::hs=>(match iI P op t x y a b with
   | some (.sc (.bool B))=>some (.sc (.bool c),s,hs,[.eqb B c])
   | _=>none)
 | .i z::hs=>(match iI P op t x y a b with
   | some (.sc (.int k X))=>some (.sc (.int k z),s,hs,[.eqi X z])
   | _=>none)
 | .w v::hs=>some (v,s,hs,[.bin op t x y a b v])
 | _=>none
def apA(P:Program)(t:TypeId)(a b:AV)(s:AS):List Hn->HO
 | .k::hs=>(match BW P t a b with
   | some v=>some (v,s,hs,[])
   | none=>none)
 | .w v::hs=>some (v,s,hs,[.idx t a b v])
 | _=>none
def lE(s:AS)(r:Option AR):List Hn->HO
 | .w v::hs=>(match r with
   | some (.ent f args)=>some (v,s,hs,[.pur f args v])
   | _=>none)
 | .a v s1::hs=>(match r with
   | some (.ent f args)=>some (v,s1,hs,[.akr f args s v s1])
   | _=>none)
 | .u v pre tp W4 tu::hs=>(match r with
   | some (.ent f args)=>some (v,(s.ZA W4).V5 tu,hs,[.H4 f args (.ret v) pre tp W4 tu,.zF (hX s pre) (Vb pre) (kX s.F tp) (V2 tp)])
   | _=>none)
 | .cn v h dn F dr::hs=>(match r with
   | some (.ent f args)=>some (v,⟨h++s.h,s.nx+dn,F++s.F,s.nr+dr⟩,hs,[.YH f args s.nx s.nr v h dn F dr])
   | _=>none)
 | _=>none
def ah0(s:AS)(t tx:TypeId)(a b:AV):List Hn->HO
 | .mb n m::hs=>some (.G2 s.nx 0 n,s.new m,hs,[.apB t tx a b n m])
 | .a v s1::hs=>some (v,s1,hs,[.bV s t tx a b v s1])
 | .ae v::hs=>some (v,s,hs,[.bV s t tx a b v s])
 | .g sz k cs2::hs=>(match a with
   | .sl .full n cs=>some (.sl (.row s.nr sz) k cs2,s.add k,hs,[.Z2 t tx .full n cs b sz k cs2])
   | .sl (.row r z) n cs=>(match Ec r s.F with
     | some m=>(match Nat.beq z sz with
       | true=>some (.sl (.row r sz) k cs2,s.grow r k,hs,[.Z2 t tx (.row r z) n cs b sz k cs2,.eqn m n])
       | false=>none)
     | none=>none)
   | _=>none)
 | _=>none
def ark(P:Program)(t:TypeId)(a b:AV)(s:AS):List Hn->HO
 | .k::hs=>(match Oq P t a b with
   | some v=>some (v,s,hs,[])
   | none=>none)
 | .w v::hs=>some (v,s,hs,[.ix t a b v])
 | _=>none
def ajU(t:TypeId)(a b:AV)(ok:Bool)(s:AS):List Hn->HO
 | .w v::hs=>some (v,s,hs,[.lk s t a b ok v])
 | .x m v::hs=>(match a with
   | .mp id=>some (v,s,hs,[.uZ m t b ok v,.zF [s.get id] [some m] [] []])
   | _=>none)
 | _=>none
def anq(t:TypeId)(a b v:AV)(s:AS):List Hn->HO
 | .m s1::hs=>some (.sc undef,s1,hs,[.ms s t a b v s1])
 | .y m m2::hs=>(match a with
   | .mp id=>some (.sc undef,s.put id m2,hs,[.msB m t b v m2,.zF [s.get id] [some m] [] []])
   | _=>none)
 | _=>none
def ac6(t:TypeId)(a:Option AV)(s:AS)(r:Option AR):List Hn->HO
 | .l v::hs=>(match a with
   | some a=>some (v,s,hs,[.ld s t a v])
   | none=>none)
 | .lb m v::hs=>(match a with
   | some (.ptr id off)=>some (v,s,hs,[.ldB m t off v,.zF [s.get id] [some m] [] []])
   | _=>none)
 | hs=>Oc r hs
def xL(t:TypeId)(a x:Option AV)(s:AS)(r:Option AR):List Hn->HO
 | .s s1::hs=>(match a,x with
   | some a,some x=>some (.sc undef,s1,hs,[.st s t a x s1])
   | _,_=>none)
 | .sb m m2::hs=>(match a,x with
   | some (.ptr id off),some x=>some (.sc undef,s.put id m2,hs,[.stB m t off x m2,.zF [s.get id] [some m] [] []])
   | _,_=>none)
 | hs=>Oc r hs
def adh(t:TypeId)(a x:Option AV)(s:AS)(r:Option AR):List Hn->HO
 | .c v s1::hs=>(match a,x with
   | some a,some x=>some (v,s1,hs,[.mk s t a x v s1])
   | _,_=>none)
 | .mb n m::hs=>(match a,x with
   | some a,some x=>some (.G2 s.nx 0 n,s.new m,hs,[.mkB t a x n m])
   | _,_=>none)
 | hs=>Oc r hs
def aom(t:TypeId)(a:Option AV)(l h m:Option (Option AV))(s:AS)(r:Option AR):List Hn->HO
 | .o v::hs=>(match a,l,h,m with
   | some a,some l,some h,some m=>some (v,s,hs,[.sli t a l h m v])
   | _,_,_,_=>none)
 | hs=>Oc r hs
def hDo(P:Program)(G:Bh)(fr:List AV)(s:AS)(o:Oper)(hs:List Hn):HO :=
 match o.op with
 | .binOp op t x y _=>(match A5 G fr x with
   | some a=>(match A5 G fr y with
     | some b=>aoZ P op t x y a b s hs
     | none=>none)
   | none=>none)
 | .indexAddr t x i=>(match A5 G fr x with
   | some a=>(match A5 G fr i with
     | some b=>apA P t a b s hs
     | none=>none)
   | none=>none)
 | .index t x i=>(match A5 G fr x with
   | some a=>(match A5 G fr i with
     | some b=>ark P t a b s hs
     | none=>none)
   | none=>none)
 | .lookup t x k ok=>(match A5 G fr x with
   | some a=>(match A5 G fr k with
     | some b=>ajU t a b ok s hs
     | none=>none)
   | none=>none)
 | .mapUpdate t m k x=>(match A5 G fr m with
   | some a=>(match A5 G fr k with
     | some b=>(match A5 G fr x with
       | some v=>anq t a b v s hs
       | none=>none)
     | none=>none)
   | none=>none)
 | .load t x=>ac6 t (Bp G fr x) s (Wv P G fr s o) hs
 | .store t x y=>xL t (Bp G fr x) (Bp G fr y) s (Wv P G fr s o) hs
 | .makeSlice t x y=>adh t (Bp G fr x) (Bp G fr y) s (Wv P G fr s o) hs
 | .slice t x lo hi mx=>aom t (Bp G fr x) (qM G fr lo) (qM G fr hi) (qM G fr mx) s (Wv P G fr s o) hs
 | .call cl=>(match cl.callee with
   | .value _=>lE s (Wv P G fr s o) hs
   | .builtin .append=>(match cl.args.toList,cl.argTypes.toList with
     | [x,y],[t,tx]=>(match A5 G fr x with
       | some a=>(match A5 G fr y with
         | some b=>ah0 s t tx a b hs
         | none=>none)
       | none=>none)
     | _,_=>none)
   | _=>Oc (Wv P G fr s o) hs)
 | _=>Oc (Wv P G fr s o) hs
def u7(P:Program)(G:Bh)(ops:Array Oper)(fr:List AV)(s:AS)(o:Oper)(hs:List Hn):HO :=
 match Cl ops fr o with
 | true=>hDo P G fr s o hs
 | false=>some (.sc undef,s,hs,[])
section
variable {P:Program} {G:Bh} {ops:Array Oper}
def Zj{r:Option AR}{hs DC:List Hn}{v:AV}{s:AS}{cd:List Cd}(h:Oc r hs=some (v,s,DC,cd)):r=some (.val v s):=by
 unfold Oc at h;split at h;cases h;rfl;cases h
def af8{t:TypeId}{a:Option AV}{r:Option AR}{hs DC:List Hn}{v:AV}{s s1:AS}{cd:List Cd}(h:ac6 t a s r hs=some (v,s1,DC,cd))(hc:Vn P G cd):(∃a',a=some a'/\Lk P s t a'=some v/\s1=s)\/Oc r hs=some (v,s1,DC,cd):=by
 unfold ac6 at h;split at h;split at h;cases h;exact .inl ⟨_,rfl,hc.1,rfl⟩;cases h;split at h;cases h;exact .inl ⟨_,rfl,hc.1 _ _ (List.cons.inj hc.2.1.1).1,rfl⟩;cases h;exact .inr h
def Ze{t:TypeId}{a x:Option AV}{r:Option AR}{hs DC:List Hn}{v:AV}{s s1:AS}{cd:List Cd}(h:xL t a x s r hs=some (v,s1,DC,cd))(hc:Vn P G cd):(∃a' x',a=some a'/\x=some x'/\MX P s t a' x'=some s1/\v=.sc undef)\/Oc r hs=some (v,s1,DC,cd):=by
 unfold xL at h;split at h;split at h;cases h;exact .inl ⟨_,_,rfl,rfl,hc.1,rfl⟩;cases h;split at h;cases h;exact .inl ⟨_,_,rfl,rfl,hc.1 _ _ (List.cons.inj hc.2.1.1).1,rfl⟩;cases h;exact .inr h
def adN{t:TypeId}{a x:Option AV}{r:Option AR}{hs DC:List Hn}{v:AV}{s s1:AS}{cd:List Cd}(h:adh t a x s r hs=some (v,s1,DC,cd))(hc:Vn P G cd):(∃a' x',a=some a'/\x=some x'/\∃s0,Iq P s t a' x'=some (v,s0)/\∀cx w,St G cx w s0->St G cx w s1)\/Oc r hs=some (v,s1,DC,cd):=by
 unfold adh at h;split at h;split at h;cases h;exact .inl ⟨_,_,rfl,rfl,_,hc.1,λ_ _ h=>h⟩;cases h;split at h;cases h;obtain⟨m0,h1,h2⟩:=hc.1 s;refine .inl ⟨_,_,rfl,rfl,_,h1,λcx w hs=>?_⟩;have:=hs.aiN (id:=s.nx) (b:=m0) (b2:=_) (by simp[AS.new,look]) (λo ho=>h2 cx w o ho);simpa[AS.new,upd] using this
 cases h;exact .inr h
def ahJ{t:TypeId}{a:Option AV}{l k m:Option (Option AV)}{r:Option AR}{hs DC:List Hn}{v:AV}{s s1:AS}{cd:List Cd}(h:aom t a l k m s r hs=some (v,s1,DC,cd))(hc:Vn P G cd):(∃a' l' k' m',a=some a'/\l=some l'/\k=some k'/\m=some m'/\KL P t a' l' k' m'=some v/\s1=s)\/Oc r hs=some (v,s1,DC,cd):=by
 unfold aom at h;split at h;split at h;cases h;exact .inl ⟨_,_,_,_,rfl,rfl,rfl,rfl,hc.1,rfl⟩;cases h;exact .inr h
def anl{fr:List AV}{s s1:AS}{o:Oper}{hs DC:List Hn}{v:AV}{cd:List Cd}(hw:Cl ops fr o=true)(h:hDo P G fr s o hs=some (v,s1,DC,cd))(hc:Vn P G cd):J P G (XS P G) H0 (.op ops o fr s (.ret v) s1):=by
 have ZJ:Oc (Wv P G fr s o) hs=some (v,s1,DC,cd)->J P G (XS P G) H0 (.op ops o fr s (.ret v) s1):=λh=>by
   have:=Zj h;rw[OK] at this;exact .RD hw this
 unfold hDo at h;split at h;rename_i op t x y z ho;rw[Cu,Cu] at h;split at h;rename_i a ha;split at h;rename_i b hb
 have fin:∀v',L2 P op t x y a b=some v'->s1=s->v=v'->J P G (XS P G) H0 (.op ops o fr s (.ret v) s1):=by
   intro v' h1 h2 h3;subst h2 h3;refine .RD hw ?_;unfold SW;rw[ho];simp only[ha,hb,h1,Option.map_some]
 unfold aoZ at h;rw[LX] at h;split at h;split at h;rename_i h1;cases h;exact fin _ h1 rfl rfl;cases h;split at h;rename_i h1;cases h;have e:_=_:=hc.1;subst e;exact fin _ h1 rfl rfl;cases h;split at h;rename_i h1;cases h;have e:_=_:=hc.1;subst e;exact fin _ h1 rfl rfl;cases h;cases h;exact fin _ hc.1 rfl rfl;cases h;cases h;cases h;rename_i t x i ho;rw[Cu,Cu] at h;split at h;rename_i a ha;split at h;rename_i b hb
 have fin:∀v',BW P t a b=some v'->s1=s->v=v'->J P G (XS P G) H0 (.op ops o fr s (.ret v) s1):=by
   intro v' h1 h2 h3;subst h2 h3;refine .RD hw ?_;unfold SW;rw[ho];simp only[ha,hb,h1,Option.map_some]
 unfold apA at h;split at h;split at h;rename_i h1;cases h;exact fin _ h1 rfl rfl;cases h;cases h;exact fin _ hc.1 rfl rfl;cases h;cases h;cases h;rename_i t x i ho;rw[Cu,Cu] at h;split at h;rename_i a ha;split at h;rename_i b hb
 have fin:∀v',Oq P t a b=some v'->s1=s->v=v'->J P G (XS P G) H0 (.op ops o fr s (.ret v) s1):=by
   intro v' h1 h2 h3;subst h2 h3;refine .RD hw ?_;unfold SW;rw[ho];simp only[ha,hb,h1,Option.map_some]
 unfold ark at h;split at h;split at h;rename_i h1;cases h;exact fin _ h1 rfl rfl;cases h;cases h;exact fin _ hc.1 rfl rfl;cases h;cases h;cases h;rename_i t x k ok ho;rw[Cu,Cu] at h;split at h;rename_i a ha;split at h;rename_i b hb
 have h1:H3 P s t a b ok=some v/\s1=s:=by
   unfold ajU at h;split at h;cases h;exact⟨hc.1,rfl⟩;split at h;cases h;refine⟨hc.1 _ _ ?_,rfl⟩;have h2:=hc.2.1.1;simpa using h2
   cases h;cases h
 obtain⟨h1,rfl⟩:=h1;refine .RD hw ?_;unfold SW;rw[ho];simp only[ha,hb,h1,Option.map_some];cases h;cases h;rename_i t m k x ho;rw[Cu,Cu,Cu] at h;split at h;rename_i a ha;split at h;rename_i b hb;split at h;rename_i x' hx
 have h1:K9 P s t a b x'=some s1/\v=.sc undef:=by
   unfold anq at h;split at h;cases h;exact⟨hc.1,rfl⟩;split at h;cases h;refine⟨hc.1 _ _ ?_,rfl⟩;have h2:=hc.2.1.1;simpa using h2
   cases h;cases h
 obtain⟨h1,rfl⟩:=h1;refine .RD hw ?_;unfold SW;rw[ho];simp only[ha,hb,hx,h1,Option.map_some];cases h;cases h;cases h;rename_i t x ho;rcases af8 h hc with ⟨a,ha,h1,rfl⟩ | h1
 refine .RD hw ?_;unfold SW;rw[ho];simp only[ha,Option.bind_some,h1,Option.map_some];exact ZJ h1;rename_i t x y ho;rcases Ze h hc with ⟨a,b,ha,hb,h1,rfl⟩ | h1
 refine .RD hw ?_;unfold SW;rw[ho];simp only[ha,hb,h1,Option.map_some];exact ZJ h1;rename_i t x y ho;rcases adN h hc with ⟨a,b,ha,hb,s0,h1,h2⟩ | h1
 refine .pV ?_ (.RD (s':=s0) hw ?_) h2;simp only[quiet,ho];unfold SW;rw[ho];simp only[ha,hb,h1,Option.map_some];exact ZJ h1;rename_i t x lo hi mx ho;rcases ahJ h hc with ⟨a,l,k,m,ha,hl,hk,hm,h1,rfl⟩ | h1
 refine .RD hw ?_;unfold SW;rw[ho];simp only[ha,hl,hk,hm,h1,Option.map_some];exact ZJ h1;rename_i cl ho;split at h;unfold lE at h;split at h;split at h;rename_i h1;cases h;rw[OK] at h1;exact .S1 hw h1 (.ext (hc.1 s));cases h;split at h;rename_i h1;cases h;rw[OK] at h1;exact .S1 hw h1 (.ext hc.1);cases h;split at h;rename_i h1;cases h;rw[OK] at h1;exact .S1 hw h1 (.ext (hc.1 s hc.2.1.1 hc.2.1.2));cases h;split at h;rename_i h1;cases h;rw[OK] at h1;exact .S1 hw h1 (.ext (hc.1 s rfl rfl));cases h;cases h;rename_i Iv;split at h;rename_i x y t tx hxs hts;rw[Cu,Cu] at h;split at h;rename_i a ha;split at h;rename_i b hb
 have fin:∀v0,PR P s t tx a b=some (v0,s1)->(∀c w u,Rp c w v0 u->Rp c w v u)->J P G (XS P G) H0 (.op ops o fr s (.ret v) s1):=by
   intro v0 h1 h2;refine .vJ (v:=v0) ?_ (.RD hw ?_) h2;simp only[quiet,ho,Iv];unfold SW;rw[ho];simp only[VT,Iv,hxs,hts,ha,hb,h1,Option.map_some]
 unfold ah0 at h;split at h;cases h;exact .afr hw ho Iv hxs hts ha hb (hc.1 s);cases h;obtain⟨v0,h1,h2⟩:=hc.1;exact fin v0 h1 h2;cases h;obtain⟨v0,h1,h2⟩:=hc.1;exact fin v0 h1 h2;split at h;cases h;obtain⟨cs0,h1,h2⟩:=hc.1 s rfl;exact fin _ h1 (λc w u=>h2 c w u _);rename_i r z n cs;split at h;rename_i m hm;split at h;rename_i hz;have hz:=beq_true hz;subst hz;cases h;have e:m=n:=hc.2.1;subst e;obtain⟨cs0,h1,h2⟩:=hc.1 s (by simp[QR,hm]);exact fin _ h1 (λc w u=>h2 c w u _);cases h;cases h;cases h;cases h;cases h;cases h;cases h;exact ZJ h;exact ZJ h
def W9{fr:List AV}{s s1:AS}{o:Oper}{hs DC:List Hn}{v:AV}{cd:List Cd}(h:u7 P G ops fr s o hs=some (v,s1,DC,cd))(hc:Vn P G cd):J P G (XS P G) H0 (.op ops o fr s (.ret v) s1):=by
 unfold u7 at h;split at h;rename_i hw;exact anl hw h hc;rename_i hw;cases h;exact .nF hw
end
end AI
namespace AI
open Go Go.RowKit
def Qo(op:Op):Bool:=match op with
 | .call cl=>(match cl.callee with | .value _=>true | _=>false)
 | _=>false
def isA:List Hn->Bool
 | .a _ _::_=>true
 | .u _ _ _ _ _::_=>true
 | .cn _ _ _ _ _::_=>true
 | _=>false
def aeY(P:Program)(G:Bh)(ops:Array Oper)(fr:List AV)(s:AS)(o:Oper)(hs:List Hn):HO:=match Qo o.op with
 | true=>(match isA hs with
   | true=>none
   | false=>u7 P G ops fr s o hs)
 | false=>u7 P G ops fr s o hs
def Ve{P:Program}{G:Bh}{ops:Array Oper}{fr:List AV}{s:AS}{o:Oper}{hs:List Hn}{r:AV×AS×List Hn×List Cd}(h:aeY P G ops fr s o hs=some r):u7 P G ops fr s o hs=some r/\(Qo o.op=true->isA hs=false):=by
 unfold aeY at h;split at h;split at h;cases h;rename_i h1;exact⟨h,λ_=>h1⟩;rename_i h1;exact⟨h,λh2=>by rw[h1] at h2;cases h2⟩
abbrev HT:=Option (List Hn×List Cd×List (List AV×AS×AV)×List AV×AS)
def abt(cd:List Cd)(x:List AV×AS×AV):HT->HT
 | some (hs,cd',t,fr,s)=>some (hs,cd++cd',x::t,fr,s)
 | none=>none
def hTr(P:Program)(G:Bh)(ops:Array Oper):List Oper->Nat->List Hn->List AV->AS->HT
 | [],_,hs,fr,s=>some (hs,[],[],fr,s)
 | o::l,q,hs,fr,s=>(match BG o.op with
   | true=>abt [] (fr,s,Nj ops fr o q) (hTr P G ops l (q+1) hs (Pt fr o.dst (Nj ops fr o q)) s)
   | false=>(match aeY P G ops fr s o hs with
     | some (v,s1,Xa,cd)=>abt cd (fr,s,v) (hTr P G ops l q Xa (Pt fr o.dst v) s1)
     | none=>none))
def aqo(q0:Nat):Option AV->Bool
 | some (.el _)=>true
 | some (.ptr id _)=>Nat.blt id q0
 | _=>false
def arB(q0:Nat):Option AV->Bool
 | some (.ptr id _)=>Nat.ble q0 id
 | _=>false
def slV:Option AV->Bool
 | some (.sl _ _ _)=>true
 | some (.sc (.string _))=>true
 | _=>false
def mpV(q0:Nat):Option AV->Bool
 | some (.mp id)=>Nat.blt id q0
 | _=>false
def indep(G:Bh)(q0:Nat)(fr:List AV)(o:Oper):Bool:=match o.op with
 | .load _ a=>aqo q0 (A5 G fr a)
 | .lookup _ m _ _=>mpV q0 (A5 G fr m)
 | .store _ a _=>arB q0 (A5 G fr a)
 | .call cl=>(match cl.callee with
   | .value _=>true
   | .builtin .len=>(match cl.args.toList with
     | [x]=>slV (A5 G fr x)
     | _=>false)
   | _=>quiet o.op)
 | .alloc _=>true
 | op=>quiet op
def On(G:Bh)(ops:Array Oper)(q0:Nat):List Oper->List (List AV×AS×AV)->Bool
 | o::os,t::ts=>(match Cl ops t.1 o with
   | false=>On G ops q0 os ts
   | true=>(match indep G q0 t.1 o with
     | true=>On G ops q0 os ts
     | false=>false))
 | _,_=>true
def xC(q0:Nat)(s s':AS):Prop:=∀id,id < q0->s'.get id=s.get id
def KD{id TY:Nat}{b:Bb}(h:TY≠id):∀(l:List (Nat×Bb)),look TY (upd id b l)=look TY l
 | []=>rfl
 | e::l=>by
   simp only[upd];split;rename_i hb;have hb:=beq_true hb;simp only[look]
   have h1:Nat.beq id TY=false:=by cases hq:Nat.beq id TY with
     | true=>exact absurd (beq_true hq).symm h
     | false=>rfl
   rw[hb,h1];simp only[look,KD h l]
section
variable {P:Program} {G:Bh} {ops:Array Oper}
def aic{q0:Nat}{fr:List AV}{s s1:AS}{o:Oper}{hs DC:List Hn}{v:AV}{cd:List Cd}(h:u7 P G ops fr s o hs=some (v,s1,DC,cd))(hA:Qo o.op=true->isA hs=false)(hi:Cl ops fr o=true->indep G q0 fr o=true)(hc:Vn P G cd)(ha:BG o.op=false):xC q0 s s1:=by
 intro id hid;have hj:=W9 h hc;cases hq:quiet o.op with
 | true=>rw[(JT hq hj).1]
 | false =>
   unfold u7 at h;split at h;rename_i hw;have hi:=hi hw;unfold indep at hi;split at hi;rename_i t a ho;rw[ho] at hq;cases hq;rename_i t m k ok ho;rw[ho] at hq;cases hq;rename_i t a x ho;unfold hDo at h;rw[ho] at h;simp only at h
   have h1:∃a' x',Bp G fr a=some a'/\Bp G fr x=some x'/\MX P s t a' x'=some s1:=by
     rcases Ze h hc with ⟨a',x',h2,h3,h4,_⟩ | h2
     exact⟨a',x',h2,h3,h4⟩;have h1:=Zj h2;rw[OK] at h1;unfold SW at h1;rw[ho] at h1;simp only at h1;split at h1;rename_i a' x' ha' qO;obtain⟨s',HK,he⟩:=map_some h1;injection he with Uh vA
     subst vA;exact⟨a',x',ha',qO,HK⟩;cases h1
   rw[Cu] at hi;obtain⟨a',x',ha',qO,HK⟩:=h1;rw[ha'] at hi;unfold arB at hi;split at hi;rename_i TY off Sr;cases Sr;unfold MX at HK;split at HK;rename_i i id2 atB iG ae3;cases ae3;split at HK;split at HK;cases HK;have:=Nat.le_of_ble_eq_true hi;exact KD (by omega) _;cases HK;cases HK;cases HK;cases hi;rename_i cl ho;split at hi;rename_i f Iv;unfold hDo at h;rw[ho] at h;simp only[Iv] at h;unfold lE at h;split at h;split at h;cases h;rfl;cases h;have:=hA (by rw[ho];simp[Qo,Iv]);simp[isA] at this;have:=hA (by rw[ho];simp[Qo,Iv]);simp[isA] at this;have:=hA (by rw[ho];simp[Qo,Iv]);simp[isA] at this;cases h;rename_i Iv;rw[ho] at hq;simp[quiet,Iv] at hq;rw[ho] at hq;rw[ho,hq] at hi;cases hi;rename_i e ho;rw[ho] at ha;cases ha;rw[hq] at hi;cases hi;cases h;rfl
def xC.refl(q0:Nat)(s:AS):xC q0 s s:=λ_ _=>rfl
def xC.trans{q0:Nat}{a b c:AS}(h:xC q0 a b)(k:xC q0 b c):xC q0 a c:=λid hid=>(k id hid).trans (h id hid)
def ak5{q0:Nat}{l:List Oper}{q:Nat}{hs DC:List Hn}{fr Cm:List AV}{s s':AS}{cd:List Cd}{t:List (List AV×AS×AV)}(h:hTr P G ops l q hs fr s=some (DC,cd,t,Cm,s'))(hc:Vn P G cd)(hi:On G ops q0 l t=true) :
   RJ P G (XS P G) H0 ops q l fr s t Cm s'/\(∀x∈t,xC q0 s x.2.1)/\xC q0 s s':=by
 induction l generalizing q hs fr s cd t with
 | nil=>simp only[hTr] at h;cases h;exact⟨.nil,(λx hx=>by cases hx),xC.refl _ _⟩
 | cons o l ih =>
   simp only[hTr] at h;cases ha:BG o.op with
   | true =>
     rw[ha] at h;simp only at h;unfold abt at h;split at h;rename_i hs2 cd2 t2 I0 s2 h2;cases h
     have iG:On G ops q0 l t2=true:=by
       simp only[On] at hi;split at hi;exact hi;split at hi;exact hi;cases hi
     obtain⟨k1,k2,k3⟩:=ih h2 (hc.bV).2 iG;refine⟨.alloc ha k1,λx hx=>?_,k3⟩;rcases List.mem_cons.1 hx with rfl | hx
     exact xC.refl _ _;exact k2 x hx;cases h
   | false =>
     rw[ha] at h;simp only at h;split at h;rename_i v s1 Xa cd1 h1;unfold abt at h;split at h;rename_i hs2 cd2 t2 I0 s2 h2;cases h;obtain⟨c1,c2⟩:=hc.bV
     have S5:Cl ops fr o=true->indep G q0 fr o=true:=by
       intro hw;simp only[On,hw] at hi;split at hi;assumption;cases hi
     have iG:On G ops q0 l t2=true:=by
       simp only[On] at hi;split at hi;exact hi;split at hi;exact hi;cases hi
     have hf:=aic (Ve h1).1 (Ve h1).2 S5 c1 ha;obtain⟨k1,k2,k3⟩:=ih h2 c2 iG;refine⟨.cons ha (W9 (Ve h1).1 c1) k1,λx hx=>?_,hf.trans k3⟩;rcases List.mem_cons.1 hx with rfl | hx
     exact xC.refl _ _;exact hf.trans (k2 x hx);cases h;cases h
def abj{q0:Nat}{os:List Oper}{ts:List (List AV×AS×AV)}(h:On G ops q0 os ts=true){i:Nat}{o:Oper}{x:List AV×AS×AV}(ho:os[i]?=some o)(hx:ts[i]?=some x)(hw:Cl ops x.1 o=true):indep G q0 x.1 o=true:=by
 induction os generalizing ts i with
 | nil=>simp at ho
 | cons y os ih =>
   cases ts with
   | nil=>simp at hx
   | cons t ts =>
     simp only[On] at h;cases i with
     | zero =>
       simp at ho hx;subst ho hx;rw[hw] at h;simp only at h;split at h;assumption;cases h
     | succ i =>
       have h2:On G ops q0 os ts=true:=by
         split at h;exact h;split at h;exact h;cases h
       exact ih h2 (by simpa using ho) (by simpa using hx)
def ac1{q0:Nat}{fr:List AV}{s0 s s2:AS}{o:Oper}{v:AV}(hq:quiet o.op=true)(hr:reads o.op=true)(hi:indep G q0 fr o=true)(h1:xC q0 s0 s)(h2:xC q0 s0 s2)(h:SW P G fr s o=some (.val v s)):SW P G fr s2 o=some (.val v s2):=by
 unfold indep at hi;split at hi;rename_i t a ho;rw[Cu] at hi;unfold SW at h ⊢;rw[ho] at h ⊢;simp only at h ⊢;obtain⟨v',h3,h4⟩:=map_some h;injection h4 with h4
 subst h4;obtain⟨b,h5,h6⟩:=bind_some h3;rw[h5] at hi ⊢;unfold aqo at hi;split at hi;rename_i Sr;cases Sr;simp only[Option.bind_some];rw[show Lk P s2 t (.el _)=Lk P s t (.el _) from rfl,h6];rfl;rename_i id off Sr;cases Sr;have hid:id < q0:=Nat.le_of_ble_eq_true hi
 have:Lk P s2 t (.ptr id off)=Lk P s t (.ptr id off):=by
   simp only[Lk];rw[h2 id hid,h1 id hid]
 simp only[Option.bind_some];rw[this,h6];rfl;cases hi;rename_i t m k ok ho;rw[Cu] at hi;unfold SW at h ⊢;rw[ho] at h ⊢;simp only at h ⊢;unfold mpV at hi;split at hi;rename_i id Sr;have hid:id < q0:=Nat.le_of_ble_eq_true hi;rw[Sr] at h ⊢;cases hk:Bp G fr k with
 | none=>rw[hk] at h;cases h
 | some b =>
   rw[hk] at h;simp only at h ⊢;obtain⟨v',h3,h4⟩:=map_some h;injection h4 with h4
   subst h4
   have:H3 P s2 t (.mp id) b ok=H3 P s t (.mp id) b ok:=by
     unfold H3;simp only;rw[h2 id hid,h1 id hid]
   rw[this,h3];rfl
 cases hi;rename_i t a x ho;rw[ho] at hq;cases hq
 . rename_i cl ho
   split at hi;rename_i f Iv;rw[ho] at hq;simp[quiet,Iv] at hq
   . rename_i Iv
     unfold SW at h ⊢;rw[ho] at h ⊢;simp only[VT,Iv] at h ⊢;split at hi
     . rename_i x hx
       rw[hx] at h ⊢;cases ht:cl.argTypes.toList with
       | nil=>rw[ht] at h;cases h
       | cons t1 ts =>
         cases ts with
         | cons _ _=>rw[ht] at h;cases h
         | nil =>
           rw[ht] at h;simp only at h ⊢;obtain⟨v',h3,h4⟩:=map_some h;injection h4 with h4
           subst h4;obtain⟨b,h5,h6⟩:=bind_some h3;rw[Cu,h5] at hi;rw[h5];simp only[Option.bind_some]
           have:aK P s2 t1 b=aK P s t1 b:=by
             unfold slV at hi;split at hi
             . rename_i Sr;cases Sr;unfold aK;split<;>first | rfl | (simp_all;done)
             . rename_i Sr;cases Sr;unfold aK;split<;>first | rfl | (simp_all;done)
             cases hi
           rw[this,h6];rfl
     cases hi
   . rename_i hn1 hn2
     rw[ho] at hr;unfold reads at hr;simp only at hr
     first
       | (cases hr;done)
       | (split at hr
          rename_i Iv;exact absurd Iv hn2;cases hr)
 rename_i e ho;rw[ho] at hq;cases hq;rename_i hn1 hn2 hn3 hn4 hn5;exfalso;unfold reads at hr;split at hr;rename_i ho;exact hn1 _ _ ho;rename_i ho;exact hn2 _ _ _ _ ho;rename_i ho;exact hn4 _ ho;cases hr
def aes{id:Nat}{fr Cm:List AV}{s s':AS}{r:List Bb}{t:List (List AV×AS×AV)}{hs DC:List Hn}{cd:List Cd}(Jn:PF ops=true)(hr:rsv P ops.toList=some r)(h:hTr P G ops ops.toList s.nx hs fr (s.hold r)=some (DC,cd,t,Cm,s'))(hc:Vn P G cd)(hi:On G ops s.nx ops.toList t=true)(oY:Vt P ops t s' s.nx r=true):J P G (XS P G) H0 (.code (.region id ops true) fr s .normal Cm s'):=by
 obtain⟨htr,asP,arK⟩:=ak5 h hc hi;have hlen:t.length=ops.size:=by rw[htr.len,Array.length_toList]
 have u9:∀k,xC s.nx (s.hold r) (Eb t s' k):=by
   intro k;unfold Eb;split;rename_i x hx;exact asP x (List.mem_of_getElem? hx);exact arK
 obtain⟨h0,VP⟩:=htr.at;have nB:∀i o,ops[i]?=some o->C1 ops i=o.dst:=λi o ho=>by unfold C1;rw[ho];rfl
 obtain⟨Yk,VM⟩:=htr.fB (C1 ops) (Jg t) fr 0 rfl (λi o ho=>by rw[Nat.zero_add];exact nB i o (by rw[<- Array.getElem?_toList];exact ho)) (λi=>.inl (by rw[Nat.zero_add]));rw[Nat.zero_add,Array.length_toList] at Yk
 have HP:∀(i:Nat) (o:Oper),ops[i]?=some o->BG o.op=false->J P G (XS P G) H0 (.op ops o (Mr fr (C1 ops) (Jg t) (λ_=>true) i) (Eb t s' i) (.ret (Jg t i)) (Eb t s' (i+1))):=by
   intro i o ho jQ;obtain⟨fi,h1,h2⟩:=VP i o (BI ho);have:=VM i _ h1;simp only[Nat.zero_add] at this;rcases h2 with ⟨_,h2⟩ | ⟨h2,_⟩
   rw[<- this];exact h2;rw[jQ] at h2;cases h2
 have aaP:∀(i:Nat) (o:Oper),ops[i]?=some o->BG o.op=true->Eb t s' (i+1)=Eb t s' i/\Jg t i=Nj ops (Mr fr (C1 ops) (Jg t) (λ_=>true) i) o (s.nx+rk ops i):=by
   intro i o ho YY;obtain⟨fi,h1,h2⟩:=VP i o (BI ho);have:=VM i _ h1;simp only[Nat.zero_add] at this;rcases h2 with ⟨h2,_⟩ | ⟨_,h2⟩
   rw[YY] at h2;cases h2;rw[<- this];exact h2
 have jQ:∀o:Oper,quiet o.op=true->BG o.op=false:=by
   intro o hq;cases YY:BG o.op with
   | false=>rfl
   | true=>obtain⟨e,he⟩:=Ku YY;rw[Pv he] at hq;cases hq
 have hnl:∀o:Oper,calm o.op=false->BG o.op=false:=by
   intro o hq;cases YY:BG o.op with
   | false=>rfl
   | true=>unfold calm at hq;rw[YY] at hq;cases hq
 have hsn:Eb t s' ops.size=s':=by
   unfold Eb;rw[List.getElem?_eq_none (by omega)]
 have hsk:∀k,k<=ops.size->(t.map (λx=>x.2.1)++[s'])[k]?=some (Eb t s' k):=by
   intro k hk;unfold Eb;by_cases hkt:k < t.length;rw[List.getElem?_append_left (by simpa using hkt),List.getElem?_map,List.getElem?_eq_getElem hkt];rfl
   have:k=t.length:=by omega
   subst this;rw[List.getElem?_append_right (by simp)];simp
 have iS:∀l,l∈KY ops.toList 0->Zc ops l:=by
   intro l hl;obtain⟨j,o',e,h5,h6⟩:=YO hl;rw[Nat.zero_add] at e;subst e;exact⟨o',by rw[<- Array.getElem?_toList];exact h5,h6⟩
 have key:=J.draw (P:=P) (G:=G) (X:=XS P G) (H:=H0) (id:=id) (f0:=fr) (s0:=s) r (Jg t) (Eb t s') h0 Jn (λi o ho hl=>HP i o ho (hnl o hl)) (λi o ho hq=>by
   obtain⟨h1,h2⟩:=JT hq (HP i o ho (jQ o hq));refine⟨h1,?_⟩;rcases h2 with h2 | ⟨hw,h2⟩
   exact .inl h2;refine .inr ⟨hw,λk hk XV=>?_⟩;cases hrd:reads o.op with
   | false=>exact S2 hq hrd h2 _
   | true =>
     obtain⟨fi,hti,_⟩:=VP i o (BI ho);have pL:=VM i _ hti;simp only[Nat.zero_add] at pL;have hin:=abj hi (BI ho) hti (by rw[pL];exact hw);rw[pL] at hin;exact ac1 hq hrd hin (u9 i) (u9 k) h2) (λi o e ho he=>by
   have YY:BG o.op=true:=by rw[he];rfl
   obtain⟨h1,h2⟩:=aaP i o ho YY;refine⟨h1,?_⟩
   have hrk:rk ops i < r.length:=by
     rw[zW hr];exact oC (BI ho) YY (by rw[Array.length_toList];exact(Array.getElem?_eq_some_iff.1 ho).1)
   cases hw:Cl ops (Mr fr (C1 ops) (Jg t) (λ_=>true) i) o with
   | false=>unfold Nj at h2;rw[hw] at h2;exact .inl ⟨rfl,h2⟩
   | true =>
     unfold Nj at h2;rw[hw] at h2;obtain⟨fi,hti,_⟩:=VP i o (BI ho);have pL:=VM i _ hti;simp only[Nat.zero_add] at pL
     have hal:UT P ops (LS ops.toList []) (KY ops.toList 0) (t.map (·.2.1)++[s']) ops.toList t 0 s.nx=true:=by
       unfold Vt at oY;split at oY;simp at hrk;exact oY
     obtain⟨z,hz,hbx⟩:=kU hal (BI ho) hti he (by rw[pL];exact hw);rw[Nat.zero_add] at hbx;exact .inr ⟨rfl,z,hz,hrk,h2,λk hk XV=>lB hbx (hsk k hk) (by rw[Nat.zero_add];exact oE iS XV)⟩)
 rw[<- Yk,hsn] at key;exact key
end
end AI
namespace AI
open Go Go.RowKit
def abN(P:Program)(G:Bh)(ops:Array Oper)(c:Nat):List Oper->Nat->List Hn->List AV->AS->HT
 | [],_,hs,fr,s=>some (hs,[],[],fr,s)
 | o::l,i,hs,fr,s=>(match (match Nat.beq i c with
     | true=>u7 P G ops fr s o hs
     | false=>aeY P G ops fr s o hs) with
   | some (v,s1,Xa,cd)=>abt cd (fr,s,v) (abN P G ops c l (i+1) Xa (Pt fr o.dst v) s1)
   | none=>none)
def Ys(ms:List Nat)(c:Nat):List Oper->Nat->Bool
 | [],_=>true
 | o::l,i=>(match Nat.beq i c with
   | true=>!calm o.op
   | false=>(match Qo o.op with
     | true=>Nat.blt i c
     | false=>quiet o.op&&(!reads o.op||(Nat.blt i c&&YV ms c i))))&&Ys ms c l (i+1)
section
variable {P:Program} {G:Bh} {ops:Array Oper}
def g8{ms:List Nat}{c:Nat}:∀{l:List Oper} {i j:Nat} {o:Oper},Ys ms c l i=true->l[j]?=some o->(i+j=c->calm o.op=false)/\(i+j≠c->(Qo o.op=true/\i+j < c)\/(quiet o.op=true/\(reads o.op=true->i+j < c/\YV ms c (i+j)=true))):=by
 intro l
 induction l with
 | nil=>intro i j o h ho;simp at ho
 | cons x l ih =>
   intro i j o h ho;simp only[Ys,Bool.and_eq_true] at h;cases j with
   | zero =>
     simp at ho;subst ho;have h1:=h.1;split at h1;rename_i hb;have:=Nat.eq_of_beq_eq_true hb;exact⟨λ_=>by simpa using h1,λhn=>absurd this hn⟩
     rename_i hb;have:=Nat.ne_of_beq_eq_false hb;refine⟨λhn=>absurd hn this,λ_=>?_⟩;split at h1;rename_i hv;exact .inl ⟨hv,Nat.le_of_ble_eq_true h1⟩;simp only[Bool.and_eq_true,Bool.or_eq_true,Bool.not_eq_true'] at h1;refine .inr ⟨h1.1,λhr=>?_⟩;rcases h1.2 with h2 | h2
     rw[hr] at h2;cases h2;exact⟨Nat.le_of_ble_eq_true h2.1,h2.2⟩
   | succ j =>
     have:=ih (i:=i+1) (j:=j) h.2 (by simpa using ho)
     rw[show i+(j+1)=i+1+j by omega];exact this
def aE{ms:List Nat}{c:Nat}{l:List Oper}{i j:Nat}{o:Oper}(hl:Ys ms c l i=true)(hj:l[j]?=some o):BG o.op=false:=by
 have ho:=g8 hl hj;cases ha:BG o.op with
 | false=>rfl
 | true =>
   obtain⟨e,he⟩:=Ku ha;by_cases hic:i+j=c;have:=ho.1 hic;unfold calm at this;rw[ha] at this;simp at this;rcases ho.2 hic with ⟨h1,_⟩ | ⟨h1,_⟩
   rw[he] at h1;cases h1;rw[Pv he] at h1;cases h1
def ag0{fr:List AV}{s s1:AS}{o:Oper}{hs DC:List Hn}{v:AV}{cd:List Cd}(h:u7 P G ops fr s o hs=some (v,s1,DC,cd))(hv:Qo o.op=true)(hA:isA hs=false):s1=s:=by
 unfold u7 at h;split at h;unfold Qo at hv;split at hv;rename_i cl ho;split at hv;rename_i f Iv;unfold hDo at h;rw[ho] at h;simp only[Iv] at h;unfold lE at h;split at h;split at h;cases h;rfl;cases h;simp[isA] at hA;simp[isA] at hA;simp[isA] at hA;cases h;cases hv;cases hv;cases h;rfl
def ahA{c q:Nat}{ms:List Nat}:∀{l:List Oper} {i:Nat} {hs DC:List Hn} {fr Cm:List AV} {s s':AS} {cd:List Cd} {t:List (List AV×AS×AV)},abN P G ops c l i hs fr s=some (DC,cd,t,Cm,s')->Vn P G cd->Ys ms c l i=true->RJ P G (XS P G) H0 ops q l fr s t Cm s'/\∀j,j<=l.length->i+j<=c->Eb t s' j=s:=by
 intro l
 induction l with
 | nil =>
   intro i hs DC fr Cm s s' cd t h hc hl;simp only[abN] at h;cases h;exact⟨.nil,λj hj _=>by rfl⟩
 | cons o l ih =>
   intro i hs DC fr Cm s s' cd t h hc hl;simp only[abN] at h;split at h;rename_i v s1 Xa cd1 h1;unfold abt at h;split at h;rename_i hs2 cd2 t2 I0 s2 h2;cases h;obtain⟨c1,c2⟩:=hc.bV;have ho:=g8 (j:=0) hl rfl;have jQ:BG o.op=false:=aE (j:=0) hl rfl
   have jJ:Ys ms c l (i+1)=true:=by
     simp only[Ys,Bool.and_eq_true] at hl;exact hl.2
   have h3:u7 P G ops fr s o hs=some (v,s1,Xa,cd1):=by
     split at h1;exact h1;exact(Ve h1).1
   have hj:=W9 h3 c1;obtain⟨k1,k2⟩:=ih h2 c2 jJ;refine⟨.cons jQ hj k1,λj hjl hjc=>?_⟩;cases j with
   | zero=>rfl
   | succ j =>
     have e1:Eb ((fr,s,v)::t2) s' (j+1)=Eb t2 s' j:=by unfold Eb;simp
     rw[e1,k2 j (by simpa using hjl) (by omega)]
     have hic:i+0≠c:=by omega
     rcases ho.2 hic with ⟨hv,_⟩ | ⟨hq,_⟩
     split at h1;rename_i hb;have:=Nat.eq_of_beq_eq_true hb;omega;exact ag0 h3 hv ((Ve h1).2 hv);exact(JT hq hj).1
   cases h;cases h
def abZ{id c:Nat}{fr Cm:List AV}{s s':AS}{t:List (List AV×AS×AV)}{hs DC:List Hn}{cd:List Cd}(Jn:PF ops=true)(iV:Nat.blt c ops.size=true)(hl:Ys (LS ops.toList []) c ops.toList 0=true)(h:abN P G ops c ops.toList 0 hs fr s=some (DC,cd,t,Cm,s'))(hc:Vn P G cd):J P G (XS P G) H0 (.code (.region id ops true) fr s .normal Cm s'):=by
 have Iv:c < ops.size:=Nat.le_of_ble_eq_true iV;obtain⟨htr,hsm⟩:=ahA (q:=s.nx) h hc hl;have hlen:t.length=ops.size:=by rw[htr.len,Array.length_toList]
 obtain⟨h0,VP⟩:=htr.at;have nB:∀i o,ops[i]?=some o->C1 ops i=o.dst:=λi o ho=>by unfold C1;rw[ho];rfl
 obtain⟨Yk,VM⟩:=htr.fB (C1 ops) (Jg t) fr 0 rfl (λi o ho=>by rw[Nat.zero_add];exact nB i o (by rw[<- Array.getElem?_toList];exact ho)) (λi=>.inl (by rw[Nat.zero_add]));rw[Nat.zero_add,Array.length_toList] at Yk
 have akc:∀(i:Nat) (o:Oper),ops[i]?=some o->(i=c->calm o.op=false)/\(i≠c->(Qo o.op=true/\i < c)\/(quiet o.op=true/\(reads o.op=true->i < c/\YV (LS ops.toList []) c i=true))):=by
   intro i o ho;have:=g8 (j:=i) hl (BI ho);rwa[Nat.zero_add] at this
 have aeF:∀(i:Nat) (o:Oper),ops[i]?=some o->BG o.op=false:=λi o ho=>aE (j:=i) hl (BI ho)
 have HP:∀(i:Nat) (o:Oper),ops[i]?=some o->J P G (XS P G) H0 (.op ops o (Mr fr (C1 ops) (Jg t) (λ_=>true) i) (Eb t s' i) (.ret (Jg t i)) (Eb t s' (i+1))):=by
   intro i o ho;obtain⟨fi,h1,h2⟩:=VP i o (BI ho);have:=VM i _ h1;simp only[Nat.zero_add] at this;rcases h2 with ⟨_,h2⟩ | ⟨h2,_⟩
   rw[<- this];exact h2;rw[aeF i o ho] at h2;cases h2
 have hsn:Eb t s' ops.size=s':=by
   unfold Eb;rw[List.getElem?_eq_none (by omega)]
 have rP:∀k,k<=c->Eb t s' k=s:=λk hk=>hsm k (by rw[Array.length_toList];omega) (by omega)
 have iS:Zc ops c:=by
   have ho:ops[c]?=some ops[c]:=Array.getElem?_eq_getElem Iv;exact⟨_,ho,(akc c _ ho).1 rfl⟩
 have key:=J.draw (P:=P) (G:=G) (X:=XS P G) (H:=H0) (id:=id) (f0:=fr) (s0:=s) [] (Jg t) (Eb t s') h0 Jn (λi o ho _=>HP i o ho) (λi o ho hq=>by
   obtain⟨h1,h2⟩:=JT hq (HP i o ho);refine⟨h1,?_⟩;rcases h2 with h2 | ⟨hw,h2⟩
   exact .inl h2;refine .inr ⟨hw,λk hk XV=>?_⟩;cases hrd:reads o.op with
   | false=>exact S2 hq hrd h2 _
   | true =>
     have hic:i≠c:=λe=>by
       subst e;obtain⟨o2,ho2,hcm⟩:=iS;rw[ho] at ho2;cases ho2;rw[dV hq] at hcm;cases hcm
     obtain⟨IJ,hd⟩:i < c/\YV (LS ops.toList []) c i=true:=by
       rcases(akc i o ho).2 hic with ⟨hv,_⟩ | ⟨_,h3⟩
       exfalso;unfold Qo at hv;split at hv;rename_i cl iZ;split at hv;rename_i f asw;rw[iZ] at hq;simp[quiet,asw] at hq;cases hv;cases hv;exact h3 hrd
     have hkc:=XV.2 c iS hd;rw[rP k hkc];rw[rP i (by omega)] at h2;exact h2) (λi o e ho he=>by
   have:=aeF i o ho;rw[he] at this;cases this)
 rw[<- Yk,hsn] at key;exact key
end
end AI
namespace AI
open Go Go.RowKit
def aeT(G:Bh)(fr:List AV)(o:Oper)(hs:List Hn):Option (List Nat):=match o.op with
 | .store _ a _=>(match Bp G fr a with
   | some (.ptr id _)=>some [id]
   | _=>none)
 | .mapUpdate _ m _ _=>(match A5 G fr m with
   | some (.mp id)=>some [id]
   | _=>none)
 | .call cl=>(match cl.callee with
   | .value _=>(match hs with
     | .w _::_=>some []
     | .u _ _ _ W4 _::_=>some (W4.map (·.1))
     | .cn _ h _ _ _::_=>some (h.map (·.1))
     | _=>none)
   | .builtin .append=>(match hs with
     | .g _ _ _::_=>some []
     | .ae _::_=>some []
     | _=>none)
   | _=>(match quiet o.op with
     | true=>some []
     | false=>none))
 | op=>(match quiet op with
   | true=>some []
   | false=>none)
def dS(G:Bh)(ops:Array Oper)(fr:List AV)(o:Oper)(hs:List Hn):Option (List Nat):=match Cl ops fr o with
 | true=>aeT G fr o hs
 | false=>some []
abbrev HA:=Option (List Hn×List Cd×List (List AV×AS×AV)×List (List Nat)×List AV×AS)
def akd(cd:List Cd)(x:List AV×AS×AV)(T:List Nat):HA->HA
 | some (hs,cd',t,Ts,fr,s)=>some (hs,cd++cd',x::t,T::Ts,fr,s)
 | none=>none
def abr(P:Program)(G:Bh)(ops:Array Oper):List Oper->List Hn->List AV->AS->HA
 | [],hs,fr,s=>some (hs,[],[],[],fr,s)
 | o::l,hs,fr,s=>(match BG o.op with
   | true=>none
   | false=>(match dS G ops fr o hs with
     | some T=>(match u7 P G ops fr s o hs with
       | some (v,s1,Xa,cd)=>akd cd (fr,s,v) T (abr P G ops l Xa (Pt fr o.dst v) s1)
       | none=>none)
     | none=>none))
def agf(G:Bh)(fr:List AV)(o:Oper):Option (Option Nat):=match o.op with
 | .load _ a=>(match A5 G fr a with
   | some (.ptr id _)=>some (some id)
   | some (.el _)=>some none
   | _=>none)
 | .lookup _ m _ _=>(match A5 G fr m with
   | some (.mp id)=>some (some id)
   | _=>none)
 | .call cl=>(match cl.callee with
   | .builtin .len=>(match cl.args.toList with
     | [x]=>(match slV (A5 G fr x) with
       | true=>some none
       | false=>none)
     | _=>none)
   | _=>none)
 | _=>none
def adq(a:Nat):List Nat->Bool
 | []=>false
 | b::l=>(match Nat.beq a b with
   | true=>true
   | false=>adq a l)
def YA(ms:List Nat)(id i:Nat):List (List Nat)->Nat->Bool
 | [],_=>true
 | T::Ts,l=>(match adq id T with
   | true=>(match Nat.blt l i with
     | true=>YV ms i l
     | false=>(match Nat.blt i l with
       | true=>YV ms l i
       | false=>true))
   | false=>true)&&YA ms id i Ts (l+1)
def rA(G:Bh)(ops:Array Oper)(ms:List Nat)(Ts:List (List Nat)):List Oper->List (List AV×AS×AV)->Nat->Bool
 | o::os,t::ts,i=>(match Cl ops t.1 o with
   | false=>true
   | true=>(match reads o.op with
     | false=>true
     | true=>(match agf G t.1 o with
       | none=>false
       | some none=>true
       | some (some id)=>YA ms id i Ts 0)))&&rA G ops ms Ts os ts (i+1)
 | _,_,_=>true
def tW{a:Nat}:∀{l:List Nat},adq a l=true↔a∈l
 | []=>by simp[adq]
 | b::l=>by
   simp only[adq];cases hb:Nat.beq a b with
   | true=>have:=Nat.eq_of_beq_eq_true hb;simp[this]
   | false =>
     have:=Nat.ne_of_beq_eq_false hb;simp[tW (l:=l),this]
def sE{id:Nat}:∀(l:List (Nat×Bb)) (s:AS),id∉l.map (·.1)->(s.ZA l).get id=s.get id
 | [],_,_=>rfl
 | e::l,s,h=>by
   simp only[List.map_cons,List.mem_cons,not_or] at h;rw[AS.ZA,sE l _ h.2];exact KD h.1 _
def qR{id:Nat}:∀{l:List (Nat×Bb)} (m:List (Nat×Bb)),id∉l.map (·.1)->look id (l++m)=look id m
 | [],_,_=>rfl
 | e::l,m,h=>by
   simp only[List.map_cons,List.mem_cons,not_or] at h;simp only[List.cons_append,look]
   have hb:Nat.beq e.1 id=false:=by
     cases hq:Nat.beq e.1 id with
     | false=>rfl
     | true=>exact absurd (Nat.eq_of_beq_eq_true hq).symm h.1
   rw[hb];exact qR m h.2
def mH{id:Nat}:∀(l:List (Nat×Nat)) (s:AS),(s.V5 l).get id=s.get id
 | [],_=>rfl
 | e::l,s=>by rw[AS.V5,mH l];rfl
section
variable {P:Program} {G:Bh} {ops:Array Oper}
def abV{fr:List AV}{s s1:AS}{o:Oper}{hs DC:List Hn}{v:AV}{cd:List Cd}{T:List Nat}(h:u7 P G ops fr s o hs=some (v,s1,DC,cd))(hT:dS G ops fr o hs=some T)(hc:Vn P G cd)(ha:BG o.op=false)(id:Nat)(hid:id∉T):s1.get id=s.get id:=by
 have hj:=W9 h hc;cases hq:quiet o.op with
 | true=>rw[(JT hq hj).1]
 | false =>
   unfold u7 at h;unfold dS at hT;split at h
   . rename_i hw
     rw[hw] at hT;simp only at hT;unfold aeT at hT;split at hT;rename_i t a x ho;unfold hDo at h;rw[ho] at h;simp only at h
     have h1:∃a' x',Bp G fr a=some a'/\Bp G fr x=some x'/\MX P s t a' x'=some s1:=by
       rcases Ze h hc with ⟨a',x',h2,h3,h4,_⟩ | h2
       exact⟨a',x',h2,h3,h4⟩;have h1:=Zj h2;rw[OK] at h1;unfold SW at h1;rw[ho] at h1;simp only at h1;split at h1;rename_i a' x' ha' qO;obtain⟨s',HK,he⟩:=map_some h1;injection he with Uh vA
       subst vA;exact⟨a',x',ha',qO,HK⟩;cases h1
     obtain⟨a',x',ha',qO,HK⟩:=h1;rw[ha'] at hT;split at hT;rename_i TY off Sr;cases Sr;cases hT;simp only[List.mem_singleton] at hid;unfold MX at HK;split at HK;rename_i i id2 atB iG ae3;cases ae3;split at HK;split at HK;cases HK;exact KD hid _;cases HK;cases HK;cases HK;cases hT
     . rename_i t m k x ho
       unfold hDo at h;rw[ho] at h;simp only at h;split at hT
       . rename_i TY Sr
         rw[Sr] at h;cases hT;simp only[List.mem_singleton] at hid;simp only at h;split at h
         . split at h
           . have ajd:∀kk x' s2,K9 P s t (.mp TY) kk x'=some s2->s2.get id=s.get id:=by
               intro kk x' s2 h2;unfold K9 at h2
               repeat' split at h2
               all_goals first
                 | (cases h2;done)
                 | (rename_i ae3;cases ae3;cases h2;exact KD hid _)
                 | (simp_all only [AV.mp.injEq,Option.some.injEq];subst_vars;exact KD hid _)
             unfold anq at h;split at h;cases h;exact ajd _ _ _ hc.1;cases h;exact KD hid _;cases h
           cases h
         cases h
       cases hT
     rename_i cl ho;split at hT;rename_i f Iv;unfold hDo at h;rw[ho] at h;simp only[Iv] at h;unfold lE at h;split at h;split at h;cases h;rfl;cases h;cases hT;split at h;cases h;cases hT;rw[mH];exact sE _ _ hid;cases h;split at h;cases h;cases hT;exact qR _ hid;cases h;cases h;rename_i Iv;unfold hDo at h;rw[ho] at h;simp only[Iv] at h;split at hT;split at h;split at h;split at h;unfold ah0 at h;simp only at h;split at h;cases h;rfl;split at h;split at h;cases h;rfl;cases h;cases h;cases h;cases h;cases h;cases h;split at h;split at h;split at h;unfold ah0 at h;simp only at h;cases h;rfl;cases h;cases h;cases h;cases hT;rw[hq] at hT;cases hT;rw[hq] at hT;cases hT
   cases h;rfl
def yQ{fr:List AV}{o:Oper}{hs:List Hn}{T:List Nat}(hT:dS G ops fr o hs=some T){id:Nat}(h:id∈T)(ha:BG o.op=false):calm o.op=false:=by
 unfold calm;rw[ha];simp only;cases hq:quiet o.op with
 | false=>rfl
 | true =>
   exfalso;unfold dS at hT;split at hT;unfold aeT at hT;split at hT;rename_i ho;rw[ho] at hq;cases hq;rename_i ho;rw[ho] at hq;cases hq;rename_i cl ho;split at hT;rename_i Iv;rw[ho] at hq;simp[quiet,Iv] at hq;split at hT;cases hT;cases h;cases hT;cases h;cases hT;rw[hq] at hT;cases hT;cases h;rw[hq] at hT;cases hT;cases h;cases hT;cases h
def aij{q:Nat}:∀{l:List Oper} {hs DC:List Hn} {fr Cm:List AV} {s s':AS} {cd:List Cd} {t:List (List AV×AS×AV)} {Ts:List (List Nat)},abr P G ops l hs fr s=some (DC,cd,t,Ts,Cm,s')->Vn P G cd ->
   RJ P G (XS P G) H0 ops q l fr s t Cm s'/\(∀o∈l,BG o.op=false)/\(∀(i:Nat) id,i < l.length->(∀T,Ts[i]?=some T->id∉T)->(Eb t s' (i+1)).get id=(Eb t s' i).get id)/\∀(i:Nat) o T id,l[i]?=some o->Ts[i]?=some T->id∈T->calm o.op=false:=by
 intro l
 induction l with
 | nil =>
   intro hs DC fr Cm s s' cd t Ts h hc;simp only[abr] at h;cases h;exact⟨.nil,(λo h=>by cases h),(λi id h=>by simp at h),λi o T id h=>by simp at h⟩
 | cons o l ih =>
   intro hs DC fr Cm s s' cd t Ts h hc;simp only[abr] at h;split at h;cases h;rename_i ha;split at h;rename_i T hT;split at h;rename_i v s1 Xa cd1 h1;unfold akd at h;split at h;rename_i hs2 cd2 t2 Ts2 I0 s2 h2;cases h;obtain⟨c1,c2⟩:=hc.bV;obtain⟨k1,k2,k3,k4⟩:=ih h2 c2;refine⟨.cons ha (W9 h1 c1) k1,λo' ho'=>?_,λi id hi iY=>?_,λi o' T' id ho' hT' hid=>?_⟩;rcases List.mem_cons.1 ho' with rfl | ho'
   exact ha;exact k2 o' ho';cases i with
   | zero =>
     have e1:Eb ((fr,s,v)::t2) s' 0=s:=rfl
     have e2:Eb ((fr,s,v)::t2) s' (0+1)=s1:=by
       rw[show Eb ((fr,s,v)::t2) s' (0+1)=Eb t2 s' 0 by unfold Eb;simp];exact k1.at.1
     rw[e1,e2];exact abV h1 hT c1 ha id (iY T rfl)
   | succ i =>
     have e:∀j,Eb ((fr,s,v)::t2) s' (j+1)=Eb t2 s' j:=λj=>by unfold Eb;simp
     rw[e,e];exact k3 i id (by simpa using hi) (λT' h'=>iY T' (by simpa using h'))
   cases i with
   | zero=>simp at ho' hT';subst ho' hT';exact yQ hT hid ha
   | succ i=>exact k4 i o' T' id (by simpa using ho') (by simpa using hT') hid
   cases h;cases h;cases h
def eY{ms:List Nat}{id i:Nat}:∀{Ts:List (List Nat)} {l0:Nat},YA ms id i Ts l0=true->∀{l:Nat} {T:List Nat},Ts[l]?=some T->id∈T->(l0+l < i->YV ms i (l0+l)=true)/\(i < l0+l->YV ms (l0+l) i=true):=by
 intro Ts
 induction Ts with
 | nil=>intro l0 _ l T h;simp at h
 | cons T0 Ts ih =>
   intro l0 h l T hT hid;simp only[YA,Bool.and_eq_true] at h;cases l with
   | zero =>
     simp at hT;subst hT;have h1:=h.1;rw[tW.2 hid] at h1;simp only at h1;constructor;intro IJ;have e:Nat.blt l0 i=true:=Nat.ble_eq_true_of_le IJ;rw[e] at h1;exact h1;intro IJ
     have e:Nat.blt l0 i=false:=by
       cases hq:Nat.blt l0 i with
       | false=>rfl
       | true=>have:=Nat.le_of_ble_eq_true hq;omega
     have e2:Nat.blt i l0=true:=Nat.ble_eq_true_of_le IJ;rw[e,e2] at h1;exact h1
   | succ l =>
     have:=ih h.2 (l:=l) (by simpa using hT) hid
     rw[show l0+(l+1)=l0+1+l by omega];exact this
def adk{ms:List Nat}{Ts:List (List Nat)}:∀{os:List Oper} {ts:List (List AV×AS×AV)} {i:Nat},rA G ops ms Ts os ts i=true->∀{j:Nat} {o:Oper} {x:List AV×AS×AV},os[j]?=some o->ts[j]?=some x->Cl ops x.1 o=true->reads o.op=true->∃r,agf G x.1 o=some r/\∀id,r=some id->YA ms id (i+j) Ts 0=true:=by
 intro os
 induction os with
 | nil=>intro ts i _ j o x h;simp at h
 | cons y os ih =>
   intro ts i h j o x ho hx hw hr;cases ts with
   | nil=>simp at hx
   | cons t ts =>
     simp only[rA,Bool.and_eq_true] at h;cases j with
     | zero =>
       simp at ho hx;subst ho hx;have h1:=h.1;rw[hw,hr] at h1;simp only at h1;split at h1;cases h1;rename_i hq;exact⟨none,hq,λid h=>by cases h⟩;rename_i id hq;exact⟨some id,hq,λTY h=>by cases h;exact h1⟩
     | succ j =>
       have:=ih h.2 (j:=j) (by simpa using ho) (by simpa using hx) hw hr
       rw[show i+(j+1)=i+1+j by omega];exact this
def ajD{fr:List AV}{s s2:AS}{o:Oper}{v:AV}{r:Option Nat}(hr:agf G fr o=some r)(hs:∀id,r=some id->s2.get id=s.get id)(h:SW P G fr s o=some (.val v s)):SW P G fr s2 o=some (.val v s2):=by
 unfold agf at hr;split at hr;rename_i t a ho;rw[Cu] at hr;unfold SW at h ⊢;rw[ho] at h ⊢;simp only at h ⊢;obtain⟨v',h3,h4⟩:=map_some h;injection h4 with h4
 subst h4;obtain⟨b,h5,h6⟩:=bind_some h3;rw[h5] at hr ⊢;split at hr;rename_i id off Sr;cases Sr;cases hr
 have:Lk P s2 t (.ptr id off)=Lk P s t (.ptr id off):=by
   simp only[Lk];rw[hs id rfl]
 simp only[Option.bind_some];rw[this,h6];rfl;rename_i Sr;cases Sr;simp only[Option.bind_some];rw[show Lk P s2 t (.el _)=Lk P s t (.el _) from rfl,h6];rfl;cases hr;rename_i t m k ok ho;rw[Cu] at hr;unfold SW at h ⊢;rw[ho] at h ⊢;simp only at h ⊢;split at hr;rename_i id Sr;cases hr;rw[Sr] at h ⊢;split at h;rename_i a b ha hb;cases ha;obtain⟨v',h3,h4⟩:=map_some h;injection h4 with h4
 subst h4
 have:H3 P s2 t (.mp id) b ok=H3 P s t (.mp id) b ok:=by
   simp only[H3];rw[hs id rfl]
 rw[this,h3];rfl;cases h;cases hr
 . rename_i cl ho
   split at hr
   . rename_i Iv
     unfold SW at h ⊢;rw[ho] at h ⊢;simp only[VT,Iv] at h ⊢;split at hr
     . rename_i x hx
       rw[hx] at h ⊢;cases ht:cl.argTypes.toList with
       | nil=>rw[ht] at h;cases h
       | cons t1 ts =>
         cases ts with
         | cons _ _=>rw[ht] at h;cases h
         | nil =>
           rw[ht] at h;simp only at h ⊢;obtain⟨v',h3,h4⟩:=map_some h;injection h4 with h4
           subst h4;obtain⟨b,h5,h6⟩:=bind_some h3;rw[Cu,h5] at hr;rw[h5];simp only[Option.bind_some];split at hr
           . rename_i hsl
             have:aK P s2 t1 b=aK P s t1 b:=by
               unfold slV at hsl;split at hsl
               . rename_i Sr;cases Sr;unfold aK;split<;>first | rfl | (simp_all;done)
               . rename_i Sr;cases Sr;unfold aK;split<;>first | rfl | (simp_all;done)
               cases hsl
             rw[this,h6];rfl
           cases hr
     cases hr
   cases hr
 cases hr
def ady{id:Nat}{fr Cm:List AV}{s s':AS}{t:List (List AV×AS×AV)}{Ts:List (List Nat)}{hs DC:List Hn}{cd:List Cd}(Jn:PF ops=true)(h:abr P G ops ops.toList hs fr s=some (DC,cd,t,Ts,Cm,s'))(hr:rA G ops (LS ops.toList []) Ts ops.toList t 0=true)(hc:Vn P G cd):J P G (XS P G) H0 (.code (.region id ops true) fr s .normal Cm s'):=by
 obtain⟨htr,jQ,HK,hlo⟩:=aij (q:=s.nx) h hc;have hlen:t.length=ops.size:=by rw[htr.len,Array.length_toList]
 obtain⟨h0,VP⟩:=htr.at;have nB:∀i o,ops[i]?=some o->C1 ops i=o.dst:=λi o ho=>by unfold C1;rw[ho];rfl
 obtain⟨Yk,VM⟩:=htr.fB (C1 ops) (Jg t) fr 0 rfl (λi o ho=>by rw[Nat.zero_add];exact nB i o (by rw[<- Array.getElem?_toList];exact ho)) (λi=>.inl (by rw[Nat.zero_add]));rw[Nat.zero_add,Array.length_toList] at Yk;have aeF:∀(i:Nat) (o:Oper),ops[i]?=some o->BG o.op=false:=λi o ho=>jQ o (List.mem_of_getElem? (BI ho))
 have HP:∀(i:Nat) (o:Oper),ops[i]?=some o->J P G (XS P G) H0 (.op ops o (Mr fr (C1 ops) (Jg t) (λ_=>true) i) (Eb t s' i) (.ret (Jg t i)) (Eb t s' (i+1))):=by
   intro i o ho;obtain⟨fi,h1,h2⟩:=VP i o (BI ho);have:=VM i _ h1;simp only[Nat.zero_add] at this;rcases h2 with ⟨_,h2⟩ | ⟨h2,_⟩
   rw[<- this];exact h2;rw[aeF i o ho] at h2;cases h2
 have hsn:Eb t s' ops.size=s':=by
   unfold Eb;rw[List.getElem?_eq_none (by omega)]
 have hTl:∀(l:Nat) T id,Ts[l]?=some T->id∈T->l < ops.size->Zc ops l:=by
   intro l T id hT hid hl;exact⟨ops[l],Array.getElem?_eq_getElem hl,hlo l ops[l] T id (BI (Array.getElem?_eq_getElem hl)) hT hid⟩
 have rP:∀(bx:Nat) (d i:Nat),i+d<=ops.size->(∀l,i<=l->l < i+d->∀T,Ts[l]?=some T->bx∉T)->(Eb t s' (i+d)).get bx=(Eb t s' i).get bx:=by
   intro bx d
   induction d with
   | zero=>intro i _ _;rfl
   | succ d ih =>
     intro i hle iY;rw[show i+(d+1)=(i+d)+1 by omega,HK (i+d) bx (by rw[Array.length_toList];omega) (iY (i+d) (by omega) (by omega))];exact ih i (by omega) (λl h1 h2=>iY l h1 (by omega))
 have key:=J.draw (P:=P) (G:=G) (X:=XS P G) (H:=H0) (id:=id) (f0:=fr) (s0:=s) [] (Jg t) (Eb t s') h0 Jn (λi o ho _=>HP i o ho) (λi o ho hq=>by
   obtain⟨h1,h2⟩:=JT hq (HP i o ho);refine⟨h1,?_⟩;rcases h2 with h2 | ⟨hw,h2⟩
   exact .inl h2;refine .inr ⟨hw,λk hk XV=>?_⟩;cases hrd:reads o.op with
   | false=>exact S2 hq hrd h2 _
   | true =>
     have hil:i < ops.size:=(Array.getElem?_eq_some_iff.1 ho).1;obtain⟨fi,hti,_⟩:=VP i o (BI ho);have pL:=VM i _ hti;simp only[Nat.zero_add] at pL;obtain⟨r,hr1,uW⟩:=adk hr (BI ho) hti (by rw[pL];exact hw) hrd;rw[pL] at hr1;refine ajD hr1 (λbx hbx=>?_) h2;have hto:=uW bx hbx;rw[Nat.zero_add] at hto;rcases Nat.lt_or_ge k i with hki | hki
     have:=rP bx (i - k) k (by omega) (λl h3 h4 T hT hm=>by
       have hd:=(eY hto hT hm).1 (by omega);rw[Nat.zero_add] at hd;have:=XV.1 l (hTl l T bx hT hm (by omega)) hd;omega)
     rw[show k+(i - k)=i by omega] at this;exact this.symm
     have:=rP bx (k - i) i (by omega) (λl h3 h4 T hT hm=>by
       have wG:=hTl l T bx hT hm (by omega);rcases Nat.lt_or_ge i l with h5 | h5
       have hd:=(eY hto hT hm).2 (by omega);rw[Nat.zero_add] at hd;have:=XV.2 l wG hd;omega;have:l=i:=by omega
       subst this;obtain⟨o2,ho2,hcm⟩:=wG;rw[ho] at ho2;cases ho2;rw[dV hq] at hcm;cases hcm)
     rw[show i+(k - i)=k by omega] at this;exact this) (λi o e ho he=>by
   have:=aeF i o ho;rw[he] at this;cases this)
 rw[<- Yk,hsn] at key;exact key
end
end AI
namespace AI
open Go Go.RowKit
abbrev HS:=Option (List Hn×List Cd×List AV×AS)
def akz(cd:List Cd):HS->HS
 | some (hs,cd',fr,s)=>some (hs,cd++cd',fr,s)
 | none=>none
abbrev HC:=Option (AX×List Hn×List Cd×List AV×AS)
def lM(cd:List Cd):HC->HC
 | some (e,hs,cd',fr,s)=>some (e,hs,cd++cd',fr,s)
 | none=>none
def alm(P:Program)(G:Bh)(ops:Array Oper)(fr:List AV)(s:AS)(o:Oper):List Hn->HO
 | .p v s1::hs=>(match Cl ops fr o with
   | true=>(match Wv P G fr s o with
     | some (.ent f args)=>some (v,s1,hs,[.aku f args s v s1])
     | some (.Mq v')=>some (v',s,hs,[])
     | _=>none)
   | false=>none)
 | .q v pre tp W4 tu::hs=>(match Cl ops fr o with
   | true=>(match Wv P G fr s o with
     | some (.ent f args)=>some (v,(s.ZA W4).V5 tu,hs,[.H4 f args (.Mq v) pre tp W4 tu,.zF (hX s pre) (Vb pre) (kX s.F tp) (V2 tp)])
     | _=>none)
   | false=>none)
 | _=>none
def afZ(P:Program)(G:Bh)(ops:Array Oper):List Oper->List Hn->List AV->AS->HC
 | [],hs,fr,s=>some (.normal,hs,[],fr,s)
 | o::l,hs,fr,s=>(match alm P G ops fr s o hs with
   | some (v,s1,Xa,cd)=>some (.Mq v,Xa,cd,fr,s1)
   | none=>(match u7 P G ops fr s o hs with
     | some (v,s1,Xa,cd)=>lM cd (afZ P G ops l Xa (Pt fr o.dst v) s1)
     | none=>none))
def sU(P:Program)(G:Bh)(ops:Array Oper):List Oper->List Hn->List AV->AS->HS
 | [],hs,fr,s=>some (hs,[],fr,s)
 | o::l,hs,fr,s=>(match aeY P G ops fr s o hs with
   | some (v,s1,Xa,cd)=>akz cd (sU P G ops l Xa (Pt fr o.dst v) s1)
   | none=>none)
def steady(op:Op):Bool:=match quiet op with
 | true=>true
 | false=>(match op with
   | .call cl=>(match cl.callee with | .value _=>true | _=>false)
   | _=>false)
def Ti:List Oper->Bool
 | []=>true
 | o::l=>(match steady o.op with | true=>Ti l | false=>false)
def aqu:HS->HC
 | some (hs,cd,fr,s)=>some (.normal,hs,cd,fr,s)
 | none=>none
def aqr(P:Program)(G:Bh)(ops:Array Oper)(hs:List Hn)(fr:List AV)(s:AS):HC:=match rsv P ops.toList with
 | some r=>(match hTr P G ops ops.toList s.nx hs fr (s.hold r) with
   | some (DC,cd,t,Cm,s')=>(match On G ops s.nx ops.toList t with
     | true=>(match Vt P ops t s' s.nx r with
       | true=>some (.normal,DC,cd,Cm,s')
       | false=>none)
     | false=>none)
   | none=>none)
 | none=>none
def afq(P:Program)(G:Bh)(ops:Array Oper)(c:Nat)(hs:List Hn)(fr:List AV)(s:AS):HC:=match Nat.blt c ops.size with
 | true=>(match Ys (LS ops.toList []) c ops.toList 0 with
   | true=>(match abN P G ops c ops.toList 0 hs fr s with
     | some (DC,cd,_,Cm,s')=>some (.normal,DC,cd,Cm,s')
     | none=>none)
   | false=>none)
 | false=>none
def ajS(P:Program)(G:Bh)(ops:Array Oper)(hs:List Hn)(fr:List AV)(s:AS):HC:=match abr P G ops ops.toList hs fr s with
 | some (DC,cd,t,Ts,Cm,s')=>(match rA G ops (LS ops.toList []) Ts ops.toList t 0 with
   | true=>some (.normal,DC,cd,Cm,s')
   | false=>none)
 | none=>none
def aks(P:Program)(G:Bh)(ops:Array Oper)(fr:List AV)(s:AS):List Hn->HC
 | .z c::hs=>afq P G ops c hs fr s
 | .za::hs=>ajS P G ops hs fr s
 | hs=>(match Ti ops.toList with
   | true=>aqu (sU P G ops ops.toList hs fr s)
   | false=>aqr P G ops hs fr s)
def afX(P:Program)(G:Bh)(ops:Array Oper)(d:Bool)(hs:List Hn)(fr:List AV)(s:AS):HC:=match d with
 | false=>afZ P G ops ops.toList hs fr s
 | true=>(match PF ops with
   | true=>aks P G ops fr s hs
   | false=>none)
def PJ(P:Program)(G:Bh):Code->List Hn->List AV->AS->HC
 | .skip,hs,fr,s=>some (.normal,hs,[],fr,s)
 | .exit id,hs,fr,s=>some (.exit id,hs,[],fr,s)
 | .ret,hs,fr,s=>some (.ret,hs,[],fr,s)
 | .seq x y,hs,fr,s=>(match PJ P G x hs fr s with
   | some (.normal,Xa,cd,TR,s1)=>lM cd (PJ P G y Xa TR s1)
   | r=>r)
 | .cond q x y,hs,fr,s=>(match A5 G fr q with
   | some (.sc (.bool true))=>PJ P G x hs fr s
   | some (.sc (.bool false))=>PJ P G y hs fr s
   | _=>none)
 | .block id c,hs,fr,s=>(match PJ P G c hs fr s with
   | some (e,Xa,cd,TR,s1)=>some (Gk id e,Xa,cd,TR,s1)
   | none=>none)
 | .region _ ops d,hs,fr,s=>(match hs with
   | .n l::hs=>(match nzs l fr s with
     | some (I0,s2)=>afX P G ops d hs I0 s2
     | none=>none)
   | .f id b b2::hs=>(match look id s.h with
     | some b0=>lM [.zF [some b0] [some b] [] [],.rd s.nr b b2] (afX P G ops d hs fr ⟨upd id b2 s.h,s.nx,(s.nr,0)::s.F,s.nr+1⟩)
     | none=>none)
   | hs=>afX P G ops d hs fr s)
 | _,_,_,_=>none
section
variable {P:Program} {G:Bh} {ops:Array Oper}
def agl{fr:List AV}{s s1:AS}{o:Oper}{hs DC:List Hn}{v:AV}{cd:List Cd}(h:alm P G ops fr s o hs=some (v,s1,DC,cd))(hc:Vn P G cd):J P G (XS P G) H0 (.op ops o fr s (.Mq v) s1):=by
 unfold alm at h;split at h;rw[OK] at h;split at h;rename_i hw;split at h;rename_i h1;cases h;exact .S1 hw h1 (.ext hc.1);rename_i h1;cases h;exact .afg hw h1;cases h;cases h;rw[OK] at h;split at h;rename_i hw;split at h;rename_i h1;cases h;exact .S1 hw h1 (.ext (hc.1 s hc.2.1.1 hc.2.1.2));cases h;cases h;cases h
def ajk{l:List Oper}{k:Nat}(hk:l=ops.toList.drop k){hs DC:List Hn}{fr Cm:List AV}{s s':AS}{e:AX}{cd:List Cd}(h:afZ P G ops l hs fr s=some (e,DC,cd,Cm,s'))(hc:Vn P G cd):J P G (XS P G) H0 (.ops ops (List.range' k l.length) fr s e Cm s'):=by
 induction l generalizing k hs fr s cd with
 | nil=>simp only[afZ] at h;cases h;exact .xZ
 | cons o l ih =>
   obtain⟨k1,k2⟩:=drop_cons hk;simp only[afZ] at h;split at h;rename_i v s1 Xa cd1 h1;cases h;rw[List.length_cons,List.range'_succ];exact .vN (by rw[<- Array.getElem?_toList];exact k1) (agl h1 hc);split at h;rename_i v s1 Xa cd1 h1;unfold lM at h;split at h;rename_i e2 hs2 cd2 I0 s2 h2;cases h;obtain⟨c1,c2⟩:=hc.bV;rw[List.length_cons,List.range'_succ];exact .oZ (by rw[<- Array.getElem?_toList];exact k1) (W9 h1 c1) (ih k2 h2 c2);cases h;cases h
def ai2{l:List Oper}{q:Nat}(HK:Ti l=true){hs DC:List Hn}{fr Cm:List AV}{s s':AS}{cd:List Cd}(h:sU P G ops l hs fr s=some (DC,cd,Cm,s'))(hc:Vn P G cd):s'=s/\∃t,RJ P G (XS P G) H0 ops q l fr s t Cm s/\∀x∈t,x.2.1=s:=by
 induction l generalizing hs fr cd s with
 | nil=>simp only[sU] at h;cases h;exact⟨rfl,[],.nil,λx hx=>by cases hx⟩
 | cons o l ih =>
   simp only[Ti] at HK;split at HK;rename_i hso;simp only[sU] at h;split at h;rename_i v s1 Xa cd1 h1;unfold akz at h;split at h;rename_i hs2 cd2 I0 s2 h2;cases h;obtain⟨c1,c2⟩:=hc.bV;obtain⟨h1,hA⟩:=Ve h1;have hj:=W9 h1 c1
   have jQ:BG o.op=false:=by
     cases ha:BG o.op with
     | false=>rfl
     | true=>obtain⟨e,he⟩:=Ku ha;rw[he] at hso;simp[steady,quiet] at hso
   have Xa:s1=s:=by
     cases hq:quiet o.op with
     | true=>exact(JT hq hj).1
     | false =>
       unfold steady at hso;rw[hq] at hso;simp only at hso;split at hso;rename_i cl iZ;split at hso;rename_i f Iv;unfold u7 at h1;split at h1;unfold hDo at h1;rw[iZ] at h1;simp only[Iv] at h1;unfold lE at h1;split at h1;split at h1;cases h1;rfl;cases h1;have:=hA (by rw[iZ];simp[Qo,Iv]);simp[isA] at this;have:=hA (by rw[iZ];simp[Qo,Iv]);simp[isA] at this;have:=hA (by rw[iZ];simp[Qo,Iv]);simp[isA] at this;cases h1;cases h1;rfl;cases hso;cases hso
   subst Xa;obtain⟨e,t,ht,HP⟩:=ih HK h2 c2;subst e
   exact⟨rfl,_,.cons jQ hj ht,λx hx=>by
     rcases List.mem_cons.1 hx with rfl | hx
     rfl;exact HP x hx⟩
   cases h;cases h;cases HK
def Zh{l:List Oper}(HK:Ti l=true){i:Nat}{o:Oper}(ho:l[i]?=some o):steady o.op=true:=by
 induction l generalizing i with
 | nil=>simp at ho
 | cons x l ih =>
   simp only[Ti] at HK;split at HK;rename_i hso;cases i with
   | zero=>simp at ho;subst ho;exact hso
   | succ i=>exact ih HK (by simpa using ho)
   cases HK
def vO{X:W5}{H:SS}{id:Nat}{fr Cm:List AV}{s:AS}{t:List (List AV×AS×AV)}(Jn:PF ops=true)(HK:Ti ops.toList=true)(h:RJ P G X H ops s.nx ops.toList fr s t Cm s)(HP:∀x∈t,x.2.1=s):J P G X H (.code (.region id ops true) fr s .normal Cm s):=by
 have hlen:t.length=ops.size:=by rw[h.len,Array.length_toList]
 obtain⟨h0,VP⟩:=h.at
 have hsa:∀i,Eb t s i=s:=by
   intro i;unfold Eb;split;rename_i x hx;exact HP x (List.mem_of_getElem? hx);rfl
 have nB:∀i o,ops[i]?=some o->C1 ops i=o.dst:=λi o ho=>by unfold C1;rw[ho];rfl
 obtain⟨Yk,VM⟩:=h.fB (C1 ops) (Jg t) fr 0 rfl (λi o ho=>by rw[Nat.zero_add];exact nB i o (by rw[<- Array.getElem?_toList];exact ho)) (λi=>.inl (by rw[Nat.zero_add]));rw[Nat.zero_add,Array.length_toList] at Yk
 have jQ:∀(i:Nat) (o:Oper),ops[i]?=some o->BG o.op=false:=by
   intro i o ho;have:=Zh HK (BI ho);cases ha:BG o.op with
   | false=>rfl
   | true=>obtain⟨e,he⟩:=Ku ha;rw[he] at this;simp[steady,quiet] at this
 have hj:∀i o,ops[i]?=some o->J P G X H (.op ops o (Mr fr (C1 ops) (Jg t) (λ_=>true) i) s (.ret (Jg t i)) s):=by
   intro i o ho;obtain⟨fi,h1,h2⟩:=VP i o (BI ho);have:=VM i _ h1;simp only[Nat.zero_add] at this;rcases h2 with ⟨_,h2⟩ | ⟨h2,_⟩
   rw[<- this];rw[hsa,hsa] at h2;exact h2;rw[jQ i o ho] at h2;cases h2
 have key:=J.draw (P:=P) (G:=G) (X:=X) (H:=H) (id:=id) (f0:=fr) (s0:=s) [] (Jg t) (λ_=>s) rfl Jn (λi o ho _=>hj i o ho) (λi o ho hq=>⟨rfl,by
   obtain⟨_,h2⟩:=JT hq (hj i o ho);rcases h2 with h2 | ⟨hw,h2⟩
   exact .inl h2;exact .inr ⟨hw,λk _ _=>h2⟩⟩) (λi o e ho he=>by have:=jQ i o ho;rw[he] at this;cases this)
 rw[<- Yk] at key;exact key
def qH{ops:Array Oper}{id:Nat}{d:Bool}{hs DC:List Hn}{fr Cm:List AV}{s s':AS}{e:AX}{cd:List Cd}(h:afX P G ops d hs fr s=some (e,DC,cd,Cm,s'))(hc:Vn P G cd):J P G (XS P G) H0 (.code (.region id ops d) fr s e Cm s'):=by
 unfold afX at h;cases d with
 | false =>
   simp only at h;have:=ajk (ops:=ops) (k:=0) (by simp) h hc;refine .region ?_;rw[Array.length_toList] at this;rw[List.range_eq_range'];exact this
 | true =>
   simp only at h;split at h;rename_i Jn;unfold aks at h;split at h;unfold afq at h;split at h;rename_i iV;split at h;rename_i hl;split at h;rename_i Sr;cases h;exact abZ Jn iV hl Sr hc;cases h;cases h;cases h;unfold ajS at h;split at h;rename_i Sr;split at h;rename_i hrd;cases h;exact ady Jn Sr hrd hc;cases h;cases h;split at h;rename_i HK;unfold aqu at h;split at h;rename_i h1;cases h;obtain⟨e,t,ht,HP⟩:=ai2 (q:=s.nx) HK h1 hc;subst e;exact vO Jn HK ht HP;cases h;unfold aqr at h;split at h;rename_i r hr;split at h;rename_i Xa cd1 t TR s1 htr;split at h;rename_i hi;split at h;rename_i oY;cases h;exact aes Jn hr htr hc hi oY;cases h;cases h;cases h;cases h;cases h
def aeA(c:Code){hs DC:List Hn}{fr Cm:List AV}{s s':AS}{e:AX}{cd:List Cd}(h:PJ P G c hs fr s=some (e,DC,cd,Cm,s'))(hc:Vn P G cd):J P G (XS P G) H0 (.code c fr s e Cm s'):=by
 induction c generalizing hs DC fr Cm s s' e cd with
 | skip=>simp only[PJ] at h;cases h;exact .skip
 | exit id=>simp only[PJ] at h;cases h;exact .exit
 | ret=>simp only[PJ] at h;cases h;exact .ret
 | seq x y ihx ihy =>
   simp only[PJ] at h;cases hx:PJ P G x hs fr s with
   | none=>rw[hx] at h;cases h
   | some r =>
     obtain⟨e1,Xa,cd1,TR,s1⟩:=r;rw[hx] at h;cases e1 with
     | normal =>
       simp only at h;unfold lM at h;split at h;rename_i e2 hs2 cd2 I0 s2 h2;cases h;obtain⟨c1,c2⟩:=hc.bV;exact .seq (ihx hx c1) (ihy h2 c2);cases h
     | exit id=>simp only at h;cases h;exact .jK (ihx hx hc) (by simp)
     | ret=>simp only at h;cases h;exact .jK (ihx hx hc) (by simp)
     | Mq v=>simp only at h;cases h;exact .jK (ihx hx hc) (by simp)
 | cond q x y ihx ihy =>
   simp only[PJ,Cu] at h;split at h;rename_i hq;exact .cond hq (ihx h hc);rename_i hq;exact .cond hq (ihy h hc);cases h
 | block id c ih =>
   simp only[PJ] at h;split at h;rename_i h1;cases h;exact .block (ih h1 hc);cases h
 | region id ops d =>
   simp only[PJ] at h;split at h;split at h;rename_i hz;exact .aok (λcx w vs h1 h2=>aft hz cx w vs h1 h2) (qH h hc);cases h;split at h;rename_i b0 hb;unfold lM at h;split at h;rename_i h1;cases h;obtain⟨c1,c2⟩:=hc.bV;refine .aok (λcx w vs hs hf=>?_) (qH h1 c2);have hbb:b0=_:=Option.some.inj (List.cons.inj c1.1.1).1;subst hbb;obtain⟨x,st⟩:=hs.tok;exact⟨_,x,st.aiN hb (λo ho=>c1.2.1 _ _ _ (by simp[hs.Kr]) ho),hf.mono x⟩;cases h;cases h;exact qH h hc
 | _=>simp only[PJ] at h;cases h
def Vh:Code->Bool
 | .loop _=>true
 | .seq x y=>Vh x||Vh y
 | .cond _ x y=>Vh x||Vh y
 | .block _ c=>Vh c
 | _=>false
end
end AI
namespace AI
open Go Go.RowKit
structure PC(P:Program)(G:Bh) where
 hn:Hn
 cd:List Cd
 ok:Vn P G cd
def TN{P:Program}{G:Bh}:List (PC P G)->List Hn
 | []=>[]
 | p::l=>p.hn::TN l
def YX{P:Program}{G:Bh}:List (PC P G)->List Cd
 | []=>[]
 | p::l=>p.cd++YX l
def Vn.join{P:Program}{G:Bh}{l m:List Cd}(h:Vn P G l)(k:Vn P G m):Vn P G (l++m):=by
 induction l with
 | nil=>exact k
 | cons c l ih=>exact⟨h.1,ih h.2⟩
def UO{P:Program}{G:Bh}(l:List (PC P G)):Vn P G (YX l):=by
 induction l with
 | nil=>trivial
 | cons p l ih=>exact p.ok.join ih
inductive KI where
 | code (c:Code)
 | Px (id:Nat)
def Ce(P:Program)(G:Bh):List KI->(AX->List AV->AS->Prop)->AX->List AV->AS->Prop
 | [],Q=>Q
 | .code k::ks,Q=>akp P G (XS P G) H0 k (Ce P G ks Q)
 | .Px id::ks,Q=>Cy id (Ce P G ks Q)
inductive Sq where
 | at (id:Nat) (c:Code) (ks:List KI)
 | fin (e:AX)
abbrev HR:=Option (Sq×List Hn×List Cd×List AV×AS)
def adn(cd:List Cd):HR->HR
 | some (c,hs,cd',fr,s)=>some (c,hs,cd++cd',fr,s)
 | none=>none
def N3(r:Code->List KI->List Hn->List AV->AS->HR):List KI->AX->List Hn->List AV->AS->HR
 | [],e,hs,fr,s=>some (.fin e,hs,[],fr,s)
 | .code k::ks,.normal,hs,fr,s=>r k ks hs fr s
 | .code _::ks,e,hs,fr,s=>N3 r ks e hs fr s
 | .Px id::ks,.exit TY,hs,fr,s=>(match Nat.beq TY id with
   | true=>N3 r ks .normal hs fr s
   | false=>N3 r ks (.exit TY) hs fr s)
 | .Px _::ks,e,hs,fr,s=>N3 r ks e hs fr s
def HN(P:Program)(G:Bh):Nat->Code->List KI->List Hn->List AV->AS->HR
 | 0,_,_,_,_,_=>none
 | n+1,c,ks,hs,fr,s=>(match Vh c with
   | false=>(match PJ P G c hs fr s with
     | some (e,Xa,cd,TR,s1)=>adn cd (N3 (HN P G n) ks e Xa TR s1)
     | none=>none)
   | true=>(match c with
     | .seq x y=>HN P G n x (.code y::ks) hs fr s
     | .block id (.loop c)=>some (.at id c ks,hs,[],fr,s)
     | .block id c=>HN P G n c (.Px id::ks) hs fr s
     | .cond q x y=>(match A5 G fr q with
       | some (.sc (.bool true))=>HN P G n x ks hs fr s
       | some (.sc (.bool false))=>HN P G n y ks hs fr s
       | _=>none)
     | _=>none))
section
variable {P:Program} {G:Bh}
def SqQ(P:Program)(G:Bh)(Q:AX->List AV->AS->Prop)(fr:List AV)(s:AS):Sq->Prop
 | .at id c ks=>WL P G (XS P G) H0 c fr s (Cy id (Ce P G ks Q))
 | .fin e=>Q e fr s
def Qp{k:Code}{ks:List KI}{Q:AX->List AV->AS->Prop}{e:AX}{fr:List AV}{s:AS}(he:e≠.normal)(h:Ce P G ks Q e fr s):Ce P G (.code k::ks) Q e fr s:=by
 cases e with
 | normal=>exact absurd rfl he
 | exit id=>exact h
 | ret=>exact h
 | Mq v=>exact h
def aad{r:Code->List KI->List Hn->List AV->AS->HR}{Q:AX->List AV->AS->Prop}
   (hr:∀(c:Code) (ks:List KI) {sp:Sq} {hs DC:List Hn} {fr Cm:List AV} {s s':AS} {cd:List Cd},r c ks hs fr s=some (sp,DC,cd,Cm,s')->Vn P G cd->SqQ P G Q Cm s' sp->W P G (XS P G) H0 c fr s (Ce P G ks Q)) :
   ∀(ks:List KI) (e:AX) {sp:Sq} {hs DC:List Hn} {fr Cm:List AV} {s s':AS} {cd:List Cd},N3 r ks e hs fr s=some (sp,DC,cd,Cm,s')->Vn P G cd->SqQ P G Q Cm s' sp->Ce P G ks Q e fr s:=by
 intro ks
 induction ks with
 | nil=>intro e sp hs DC fr Cm s s' cd h hc hk;simp only[N3] at h;cases h;exact hk
 | cons k ks ih =>
   intro e sp hs DC fr Cm s s' cd h hc hk;cases k with
   | code c =>
     cases e with
     | normal=>simp only[N3] at h;exact hr c ks h hc hk
     | exit id=>simp only[N3] at h;exact Qp (by simp) (ih _ h hc hk)
     | ret=>simp only[N3] at h;exact Qp (by simp) (ih _ h hc hk)
     | Mq v=>simp only[N3] at h;exact Qp (by simp) (ih _ h hc hk)
   | Px id =>
     show Ce P G ks Q (Gk id e) fr s;cases e with
     | normal=>simp only[N3] at h;exact ih _ h hc hk
     | ret=>simp only[N3] at h;exact ih _ h hc hk
     | Mq v=>simp only[N3] at h;exact ih _ h hc hk
     | exit TY =>
       simp only[N3] at h;split at h;rename_i hb;have:=beq_true hb;subst this;have e1:Gk TY (.exit TY)=.normal:=by simp[Gk]
       rw[e1];exact ih _ h hc hk;rename_i hb;have:=beq_false hb;have e1:Gk id (.exit TY)=.exit TY:=by simp[Gk,this]
       rw[e1];exact ih _ h hc hk
def aar{Q:AX->List AV->AS->Prop}:∀(n:Nat) (c:Code) (ks:List KI) {sp:Sq} {hs DC:List Hn} {fr Cm:List AV} {s s':AS} {cd:List Cd},HN P G n c ks hs fr s=some (sp,DC,cd,Cm,s')->Vn P G cd->SqQ P G Q Cm s' sp->W P G (XS P G) H0 c fr s (Ce P G ks Q):=by
 intro n
 induction n with
 | zero=>intro c ks sp hs DC fr Cm s s' cd h;simp only[HN] at h;cases h
 | succ n ih =>
   intro c ks sp hs DC fr Cm s s' cd h hc hk;simp only[HN] at h;split at h;split at h;rename_i e Xa cd1 TR s1 h1;unfold adn at h;split at h;rename_i h2;cases h;obtain⟨c1,c2⟩:=hc.bV;exact⟨_,_,_,aeA c h1 c1,aad ih ks e h2 c2 hk⟩;cases h;cases h;split at h;exact apU (ih _ _ h hc hk);cases h;exact aaN (am8 hk);exact aaN (ih _ _ h hc hk);rw[Cu] at h;split at h;rename_i hq;exact aiu hq (ih _ _ h hc hk);rename_i hq;exact ajy hq (ih _ _ h hc hk);cases h;cases h
end
end AI
namespace AI
open Go Go.RowKit
def sub:Code->List Nat->Code
 | c,[]=>c
 | .seq x _,0::l=>sub x l
 | .seq _ y,_::l=>sub y l
 | .cond _ x _,0::l=>sub x l
 | .cond _ _ y,_::l=>sub y l
 | .block _ c,_::l=>sub c l
 | .loop c,_::l=>sub c l
 | c,_=>c
def Al(fn:Func):Code:=fn.body.getD .skip
def obv(n:Nat):AV->Bool
 | .sc _=>true
 | .any=>true
 | .ptr id _=>Nat.blt id n
 | .mp id=>Nat.blt id n
 | .G2 id _ _=>Nat.blt id n
 | _=>false
def afN{n m:Nat}{a:AV}(h:obv n a=true):Fits n m a a:=by
 refine .under ?_;cases a<;>simp only[obv] at h<;>first | rfl | (cases h;done) | exact decide_eq_true (Nat.le_of_ble_eq_true h)
structure FP(n m:Nat) where
 a:AV
 b:AV
 h:Fits n m a b
structure FB(n m:Nat) where
 a:Bb
 b:Bb
 h:Rj n m a b
def iD{n m:Nat}:List (FP n m)->List AV
 | []=>[]
 | p::l=>p.a::iD l
def Y5{n m:Nat}:List (FP n m)->List AV
 | []=>[]
 | p::l=>p.b::Y5 l
def fbA{n m:Nat}:List (FB n m)->List Bb
 | []=>[]
 | p::l=>p.a::fbA l
def fbB{n m:Nat}:List (FB n m)->List Bb
 | []=>[]
 | p::l=>p.b::fbB l
abbrev MR:=Option (List AV×List AV)
def lV(b:AV):MR->MR
 | some (l,as)=>some (b::l,as)
 | none=>none
def afG(a b:AV):MR->MR
 | some (l,as)=>some (b::l,a::as)
 | none=>none
def afL(r:List AV->MR)(n:Nat)(a:AV)(bs:List AV):MR:=match obv n a with
 | true=>lV a (r bs)
 | false=>none
def ahk(r:List AV->MR)(a:AV):List AV->MR
 | b::bs=>afG a b (r bs)
 | []=>none
def mF(r:List AV->MR)(a:AV)(bs:List AV):MR:=match Yn a with
 | true=>lV .any (r bs)
 | false=>none
def jS(n:Nat):List AV->Nat->List Nat->List AV->MR
 | [],_,_,[]=>some ([],[])
 | [],_,_,_::_=>none
 | a::l,i,[],bs=>mF (jS n l (i+2) []) a bs
 | a::l,i,t::ts,bs=>(match Nat.beq t i with
   | true=>afL (jS n l (i+2) ts) n a bs
   | false=>(match Nat.beq t (i+1) with
     | true=>ahk (jS n l (i+2) ts) a bs
     | false=>mF (jS n l (i+2) (t::ts)) a bs))
section
variable {n m:Nat} {r:List AV->MR} {l:List AV} (hr:∀(Ig:List (FP n m)) l2,r (Y5 Ig)=some (l2,iD Ig)->Kc n m l l2) {a:AV} {Ig:List (FP n m)} {l2:List AV}
include hr
def adM(h:afL r n a (Y5 Ig)=some (l2,iD Ig)):Kc n m (a::l) l2:=by
 unfold afL at h;split at h;rename_i ho;unfold lV at h;split at h;rename_i l3 as h1;cases h;exact .cons (afN ho) (hr Ig _ h1);cases h;cases h
def aat(h:ahk r a (Y5 Ig)=some (l2,iD Ig)):Kc n m (a::l) l2:=by
 cases Ig with
 | nil=>cases h
 | cons p Ig =>
   simp only[Y5,ahk] at h;unfold afG at h;split at h;rename_i l3 as h1;simp only[iD,Option.some.injEq,Prod.mk.injEq,List.cons.injEq] at h;obtain⟨rfl,rfl,rfl⟩:=h;exact .cons p.h (hr Ig _ h1);cases h
def XD(h:mF r a (Y5 Ig)=some (l2,iD Ig)):Kc n m (a::l) l2:=by
 unfold mF at h;split at h;rename_i hd;unfold lV at h;split at h;rename_i l3 as h1;cases h;exact .cons (.drop hd) (hr Ig _ h1);cases h;cases h
end
def ais{n m:Nat}:∀{l:List AV} {i:Nat} {ts:List Nat} {Ig:List (FP n m)} {l2:List AV},jS n l i ts (Y5 Ig)=some (l2,iD Ig)->Kc n m l l2:=by
 intro l
 induction l with
 | nil =>
   intro i ts Ig l2 h;cases Ig with
   | nil=>simp only[Y5,jS] at h;cases h;exact .nil
   | cons p Ig=>simp only[Y5,jS] at h;cases h
 | cons a l ih =>
   intro i ts Ig l2 h;cases ts with
   | nil=>simp only[jS] at h;exact XD (λIg l2 h=>ih h) h
   | cons t ts =>
     simp only[jS] at h;split at h;exact adM (λIg l2 h=>ih h) h;split at h;exact aat (λIg l2 h=>ih h) h;exact XD (λIg l2 h=>ih h) h
abbrev BR:=Option (List (Nat×Bb)×List Bb)
def aj0(id:Nat)(a b:Bb):BR->BR
 | some (l,as)=>some ((id,b)::l,a::as)
 | none=>none
def vV:List (Nat×Bb)->List Bb->BR
 | [],[]=>some ([],[])
 | e::l,b::bs=>aj0 e.1 e.2 b (vV l bs)
 | _,_=>none
def aju{n m:Nat}:∀{l:List (Nat×Bb)} {LA:List (FB n m)} {l2:List (Nat×Bb)},vV l (fbB LA)=some (l2,fbA LA)->(∀k,KO l k->KO l2 k)/\∀id b,look id l2=some b->∃b',look id l=some b'/\Rj n m b' b:=by
 intro l
 induction l with
 | nil =>
   intro LA l2 h;cases LA with
   | nil=>simp only[fbB,vV] at h;cases h;exact⟨λ_ _=>trivial,λid b h=>by cases h⟩
   | cons p LA=>simp only[fbB,vV] at h;cases h
 | cons e l ih =>
   intro LA l2 h;cases LA with
   | nil=>simp only[fbB,vV] at h;cases h
   | cons p LA =>
     simp only[fbB,vV] at h;unfold aj0 at h;split at h;rename_i l3 as h1;simp only[fbA,Option.some.injEq,Prod.mk.injEq,List.cons.injEq] at h;obtain⟨rfl,h2,rfl⟩:=h;obtain⟨hd,hl⟩:=ih h1;refine⟨λk hk=>⟨hk.1,hd _ hk.2⟩,λid b hb=>?_⟩;simp only[look] at hb ⊢;split at hb;cases hb;exact⟨e.2,rfl,by rw[h2];exact p.h⟩;exact hl id b hb;cases h
def aF(m:Nat):List (Nat×Nat)->List (Nat×Nat)
 | []=>[]
 | x::l=>match Nat.blt x.1 m with
   | true=>x::aF m l
   | false=>aF m l
def tC{m r n:Nat}{l:List (Nat×Nat)}(h:Ec r (aF m l)=some n):Ec r l=some n/\r < m:=by
 induction l with
 | nil=>cases h
 | cons x l ih =>
   simp only[aF] at h;split at h;rename_i hb;simp only[Ec] at h ⊢;split at h;rename_i h1;have:=beq_true h1;subst this;cases h;exact⟨rfl,Nat.le_of_ble_eq_true hb⟩;exact ih h;rename_i hb;obtain⟨h1,h2⟩:=ih h;refine⟨?_,h2⟩;simp only[Ec];split;rename_i h3;have:=beq_true h3;subst this;rw[show Nat.blt x.1 m=true from Nat.ble_eq_true_of_le h2] at hb;cases hb;exact h1
section
variable {P:Program} {G:Bh}
def Frg(G:Bh)(s0:AS)(Cm:List AV)(s':AS)(I0:List AV)(s2:AS):Prop:=∀(cx:Cx) (w:World) (c':Cx) (w':World) (vs:List Value),Ext cx w c' w'->St G cx w s0->St G c' w' s'->C8 c' w' Cm vs->∃c2,Ext cx w c2 w'/\St G c2 w' s2/\C8 c2 w' I0 vs
abbrev RR:=Option (List AV×AS×List AV×List Bb)
def anL(live:List Nat)(n m:Nat)(Cm:List AV)(s':AS)(bs:List AV)(cs:List Bb):RR :=
 match jS n Cm 0 live bs with
 | some (I0,as)=>(match vV (Wb n s'.h) cs with
   | some (h2,cas)=>some (I0,⟨h2,n,aF m s'.F,m⟩,as,cas)
   | none=>none)
 | none=>none
def tS{l:List (Nat×Bb)}{N n:Nat}(h:KO l N):KO (Wb n l) n:=by
 induction l generalizing N with
 | nil=>trivial
 | cons e l ih =>
   simp only[Wb];split;exact ih h.2;rename_i hb;refine⟨?_,h.2⟩;have:¬n<=e.1:=λhle=>by rw[Nat.ble_eq_true_of_le hle] at hb;cases hb
   omega
def Sb(P:Program)(G:Bh)(L:Code)(s0:AS)(Q:AX->List AV->AS->Prop):AX->List AV->AS->Prop
 | .normal,Cm,s'=>∃I0 s2,Frg G s0 Cm s' I0 s2/\WL P G (XS P G) H0 L I0 s2 Q
 | .exit id,Cm,s'=>∃I0 s2,Frg G s0 Cm s' I0 s2/\Q (.exit id) I0 s2
 | e,Cm,s'=>Q e Cm s'
def eK{L:Code}{fr:List AV}{s:AS}{Q:AX->List AV->AS->Prop}(h:W P G (XS P G) H0 L fr s (Sb P G L s Q)):WL P G (XS P G) H0 L fr s Q:=by
 obtain⟨e,Cm,s',hj,h2⟩:=h;cases e with
 | normal =>
   obtain⟨I0,s2,hf,e3,fr3,s3,h3,h4⟩:=h2;exact⟨e3,fr3,s3,.aeQ (.scope hj (λ_ h=>by cases h) (λcx w c' w' vs hx hs DC YR=>hf cx w c' w' vs hx hs DC YR)) h3,h4⟩
 | exit id =>
   obtain⟨I0,s2,hf,h4⟩:=h2;exact⟨_,_,_,.cZ (.scope hj (λ_ h=>by cases h) (λcx w c' w' vs hx hs DC YR=>hf cx w c' w' vs hx hs DC YR)) (by simp),h4⟩
 | ret=>exact⟨_,_,_,.cZ hj (by simp),h2⟩
 | Mq v=>exact⟨_,_,_,.cZ hj (by simp),h2⟩
def V1(P:Program)(fn:Func)(m:Nat)(Q:AX->List AV->AS->Prop)(v:AV)(s2:AS):Prop:=∀fr s,I4 P s fn fr=some v->s.cut m=s2->Q .ret fr s
def X2(m:Nat)(Q:AX->List AV->AS->Prop)(v:AV)(s2:AS):Prop:=∀fr s,s.cut m=s2->Q (.Mq v) fr s
def acu{ks:List KI}{Q:AX->List AV->AS->Prop}{fr:List AV}{s:AS}(h:Q .ret fr s):Ce P G ks Q .ret fr s:=by
 induction ks with
 | nil=>exact h
 | cons k ks ih=>cases k<;>exact ih
def ab7{ks:List KI}{Q:AX->List AV->AS->Prop}{fr:List AV}{s:AS}{v:AV}(h:Q (.Mq v) fr s):Ce P G ks Q (.Mq v) fr s:=by
 induction ks with
 | nil=>exact h
 | cons k ks ih=>cases k<;>exact ih
def V1.body{fn:Func}{m:Nat}{Q:CR->AS->Prop}{v:AV}{s2:AS}(h:Q (.ret v) s2):V1 P fn m (PE P fn m Q) v s2:=λfr s h1 h2=>⟨v,h1,by rw[h2];exact h⟩
def X2.body{fn:Func}{m:Nat}{Q:CR->AS->Prop}{v:AV}{s2:AS}(h:Q (.Mq v) s2):X2 m (PE P fn m Q) v s2:=λfr s h2=>by show Q (.Mq v) (s.cut m);rw[h2];exact h
def V1.outer{fn:Func}{m id:Nat}{ks:List KI}{Q:AX->List AV->AS->Prop}{v:AV}{s2:AS}(h:V1 P fn m Q v s2):V1 P fn m (Cy id (Ce P G ks Q)) v s2:=λfr s h1 h2=>acu (h fr s h1 h2)
def X2.outer{m id:Nat}{ks:List KI}{Q:AX->List AV->AS->Prop}{v:AV}{s2:AS}(h:X2 m Q v s2):X2 m (Cy id (Ce P G ks Q)) v s2:=λfr s h1=>ab7 (h fr s h1)
def V1.Dv{fn:Func}{m:Nat}{L:Code}{s0:AS}{Q:AX->List AV->AS->Prop}{v:AV}{s2:AS}(h:V1 P fn m Q v s2):V1 P fn m (Sb P G L s0 Q) v s2:=h
def X2.Dv{m:Nat}{L:Code}{s0:AS}{Q:AX->List AV->AS->Prop}{v:AV}{s2:AS}(h:X2 m Q v s2):X2 m (Sb P G L s0 Q) v s2:=h
def gG(P:Program)(G:Bh)(_l:List (PC P G))(Q:AX->List AV->AS->Prop)(r:HR)(X:Prop):Prop:=∀sp cd Cm s',r=some (sp,[],cd,Cm,s')->Vn P G cd->SqQ P G Q Cm s' sp->X
def Ds{c:Code}{fr:List AV}{s:AS}{Q:AX->List AV->AS->Prop}(n:Nat)(l:List (PC P G)):gG P G l Q (HN P G n c [] (TN l) fr s) (W P G (XS P G) H0 c fr s Q):=λ_ _ _ _ h hc hk=>aar n c [] h hc hk
def yK(a:AV):AV:=match Yn a with
 | true=>.any
 | false=>a
def acq{a:AV}{c:Cx}{w:World}{v:Value}(hr:Rp c w a v):Rp c w (yK a) v:=by
 unfold yK;split;rename_i h;exact .any (Wo hr h);exact hr
inductive Lp(γ δ ρ:Type) where
 | nx (x:γ)
 | ex (x:δ)
 | rt (r:ρ)
section loops
variable {α γ δ ρ:Type}
def LW(k:γ->Option (δ⊕ρ)):Lp γ δ ρ->Option (δ⊕ρ)
 | .nx x=>k x
 | .ex d=>some (.inl d)
 | .rt r=>some (.inr r)
def Au(body:Nat->α->γ->Option (Lp γ δ ρ))(done:γ->δ):List α->Nat->γ->Option (δ⊕ρ)
 | [],_,x=>some (.inl (done x))
 | y::l,i,x=>(body i y x).bind (LW (Au body done l (i+1)))
def oH(body:Nat->γ->Option (Lp γ δ ρ))(done:γ->δ):Nat->Nat->γ->Option (δ⊕ρ)
 | 0,_,x=>some (.inl (done x))
 | d+1,i,x=>(body i x).bind (LW (oH body done d (i+1)))
def Ut(body:γ->Option (Lp γ δ ρ)):Nat->γ->Option (δ⊕ρ)
 | 0,_=>none
 | n+1,x=>(body x).bind (LW (Ut body n))
def ED{β:Type}(n:Nat)(x:Option β):Option β:=if n<=9223372036854775807 then x else none
def arq{β:Type}{n:Nat}{x:Option β}{r:β}(h:ED n x=some r):n<=9223372036854775807/\x=some r:=by
 unfold ED at h;split at h;rename_i h1;exact⟨h1,h⟩;cases h
def atr{β:Type}{b:Bool}{t f:Option β}{r:β}(h:cond b t f=some r):(b=true/\t=some r)\/(b=false/\f=some r):=by
 cases b;exact .inr ⟨rfl,h⟩;exact .inl ⟨rfl,h⟩
def pN{β κ:Type}{m:Option κ}{k:κ->Option β}{r:β}(h:m.bind k=some r):∃y,m=some y/\k y=some r:=by
 cases m with
 | none=>cases h
 | some y=>exact⟨y,rfl,h⟩
def LQ(Qx:δ->Prop)(Qr:ρ->Prop):δ⊕ρ->Prop
 | .inl x=>Qx x
 | .inr r=>Qr r
def RQ(Qn:γ->Prop)(Qx:δ->Prop)(Qr:ρ->Prop):Lp γ δ ρ->Prop
 | .nx x=>Qn x
 | .ex x=>Qx x
 | .rt r=>Qr r
def ahF{J:Type}{L:Code}{Q:AX->List AV->AS->Prop}{body:Nat->α->γ->Option (Lp γ δ ρ)}{done:γ->δ}(l:List α)(F:Nat->γ->J->List AV)(S:Nat->γ->J->AS)(Ok:J->Prop)(Qx:δ->Prop)(Qr:ρ->Prop)
   (hz:∀i x j,Ok j->l.length<=i->Qx (done x)->WL P G (XS P G) H0 L (F i x j) (S i x j) Q)
   (hs:∀i y x j r,Ok j->l[i]?=some y->i < l.length->body i y x=some r->RQ (λx'=>∀j',Ok j'->WL P G (XS P G) H0 L (F (i+1) x' j') (S (i+1) x' j') Q) Qx Qr r->WL P G (XS P G) H0 L (F i x j) (S i x j) Q) :
   ∀{x:γ} {VU:δ⊕ρ} (i0:Nat),Au body done (l.drop i0) i0 x=some VU->LQ Qx Qr VU->∀j,Ok j->WL P G (XS P G) H0 L (F i0 x j) (S i0 x j) Q:=by
 have key:∀(k:List α) (i:Nat) (x:γ) (VU:δ⊕ρ),l.drop i=k->Au body done k i x=some VU->LQ Qx Qr VU->∀j,Ok j->WL P G (XS P G) H0 L (F i x j) (S i x j) Q:=by
   intro k
   induction k with
   | nil =>
     intro i x VU hd h hq j hj;simp only[Au,Option.some.injEq] at h;subst h;exact hz i x j hj (List.drop_eq_nil_iff.1 hd) hq
   | cons y k ih =>
     intro i x VU hd h hq j hj
     have hi:i < l.length:=by
       rcases Nat.lt_or_ge i l.length with h1 | h1
       exact h1;rw[List.drop_eq_nil_of_le h1] at hd;cases hd
     have hy:l[i]?=some y:=by rw[<- List.head?_drop,hd];rfl
     have dM:l.drop (i+1)=k:=by rw[<- List.tail_drop,hd];rfl
     obtain⟨r,hb,h⟩:=pN h;refine hs i y x j r hj hy hi hb ?_;cases r with
     | nx x'=>exact λj' hj'=>ih (i+1) x' VU dM h hq j' hj'
     | ex d=>simp only[LW,Option.some.injEq] at h;subst h;exact hq
     | rt v=>simp only[LW,Option.some.injEq] at h;subst h;exact hq
 intro x VU i0 h hq j hj;exact key _ i0 x VU rfl h hq j hj
def anp{J:Type}{L:Code}{Q:AX->List AV->AS->Prop}{body:Nat->γ->Option (Lp γ δ ρ)}{done:γ->δ}(n:Nat)(F:Nat->γ->J->List AV)(S:Nat->γ->J->AS)(Ok:J->Prop)(Qx:δ->Prop)(Qr:ρ->Prop)
   (hz:∀x j,Ok j->Qx (done x)->WL P G (XS P G) H0 L (F n x j) (S n x j) Q)
   (hs:∀i x j r,Ok j->i < n->body i x=some r->RQ (λx'=>∀j',Ok j'->WL P G (XS P G) H0 L (F (i+1) x' j') (S (i+1) x' j') Q) Qx Qr r->WL P G (XS P G) H0 L (F i x j) (S i x j) Q) :
   ∀{x:γ} {VU:δ⊕ρ},oH body done n 0 x=some VU->LQ Qx Qr VU->∀j,Ok j->WL P G (XS P G) H0 L (F 0 x j) (S 0 x j) Q:=by
 have key:∀(d i:Nat) (x:γ) (VU:δ⊕ρ),i+d=n->oH body done d i x=some VU->LQ Qx Qr VU->∀j,Ok j->WL P G (XS P G) H0 L (F i x j) (S i x j) Q:=by
   intro d
   induction d with
   | zero =>
     intro i x VU hl h hq j hj;simp only[oH,Option.some.injEq] at h;subst h;have:i=n:=by simpa using hl
     subst this;exact hz x j hj hq
   | succ d ih =>
     intro i x VU hl h hq j hj;obtain⟨r,hb,h⟩:=pN h;refine hs i x j r hj (by omega) hb ?_;cases r with
     | nx x'=>exact λj' hj'=>ih (i+1) x' VU (by omega) h hq j' hj'
     | ex d=>simp only[LW,Option.some.injEq] at h;subst h;exact hq
     | rt v=>simp only[LW,Option.some.injEq] at h;subst h;exact hq
 intro x VU h hq j hj;exact key n 0 x VU (by simp) h hq j hj
def ahu{J:Type}{L:Code}{Q:AX->List AV->AS->Prop}{body:γ->Option (Lp γ δ ρ)}(F:γ->J->List AV)(S:γ->J->AS)(Ok:J->Prop)(Qx:δ->Prop)(Qr:ρ->Prop)
   (hs:∀x j r,Ok j->body x=some r->RQ (λx'=>∀j',Ok j'->WL P G (XS P G) H0 L (F x' j') (S x' j') Q) Qx Qr r->WL P G (XS P G) H0 L (F x j) (S x j) Q) :
   ∀(n:Nat) {x:γ} {VU:δ⊕ρ},Ut body n x=some VU->LQ Qx Qr VU->∀j,Ok j->WL P G (XS P G) H0 L (F x j) (S x j) Q:=by
 intro n
 induction n with
 | zero=>intro x VU h;cases h
 | succ n ih =>
   intro x VU h hq j hj;obtain⟨r,hb,h⟩:=pN h;refine hs x j r hj hb ?_;cases r with
   | nx x'=>exact λj' hj'=>ih h hq j' hj'
   | ex d=>simp only[LW,Option.some.injEq] at h;subst h;exact hq
   | rt v=>simp only[LW,Option.some.injEq] at h;subst h;exact hq
def pK(body:γ->Option (Lp γ δ ρ))(x:γ):Option (δ⊕ρ):=open Classical in if h:∃n r,Ut body n x=some r then some (Classical.choose (Classical.choose_spec h)) else none
def aiR{body:γ->Option (Lp γ δ ρ)}{x:γ}{r:δ⊕ρ}(h:pK body x=some r):∃n,Ut body n x=some r:=by
 unfold pK at h;split at h;rename_i hx;have:=Classical.choose_spec (Classical.choose_spec hx);rw[Option.some.inj h] at this;exact⟨_,this⟩;cases h
def eL{body:γ->Option (Lp γ δ ρ)}:∀{n m:Nat} {x:γ} {r:δ⊕ρ},Ut body n x=some r->n<=m->Ut body m x=some r:=by
 intro n
 induction n with
 | zero=>intro m x r h;cases h
 | succ n ih =>
   intro m x r h hm;cases m with
   | zero=>omega
   | succ m =>
     obtain⟨a,ha,h⟩:=pN h;simp only[Ut,ha,Option.bind_some];cases a with
     | nx x'=>exact ih h (by omega)
     | ex d=>exact h
     | rt v=>exact h
def agC{body:γ->Option (Lp γ δ ρ)}{n:Nat}{x:γ}{r:δ⊕ρ}(h:Ut body n x=some r):pK body x=some r:=by
 unfold pK;have hx:∃n r,Ut body n x=some r:=⟨n,r,h⟩;rw[dif_pos hx];have h2:=Classical.choose_spec (Classical.choose_spec hx);have h3:=eL h (Nat.le_max_left n (Classical.choose hx));have h4:=eL h2 (Nat.le_max_right n (Classical.choose hx));rw[h3] at h4;rw[Option.some.inj h4]
end loops
end
end AI
