/- Part of a proof: see the last text. -/
import Derived.Test.YtkfplcngmiljaaaGreatDoorUpk
import Derived.Test.YtkfplcngmiljaaaGreatDoorChecked
import Derived.WalkKit
import Derived.WalkLawsBesides
import Derived.WalkSpells
import Derived.Lib.Hide
import Derived.Laws.Rows
set_option linter.unusedVariables false
set_option linter.unusedSimpArgs false
namespace Go.Proofs.YtkfplcngmiljaaaGreatDoor
open AI Go
namespace Mo
set_option maxRecDepth 100000
set_option maxHeartbeats 4000000
def Sa (s:ByteArray):Prop:=s.data.toList.length=3∧∀ c∈s.data.toList,65≤c.toNat∧c.toNat≤90
def GR (s:ByteArray):Prop:=s=A4∨s=Bw∨s=Cw∨Sa s
def Rj (c:UInt8):Prop:=(97≤c.toNat∧c.toNat≤122)∨(48≤c.toNat∧c.toNat≤57)∨c.toNat=95
def TU:List ByteArray:=[OP,OI,Ie,UD,OY,O1,jX,LD,OX,JG,JP,A4,Bw,Cw,T3,OW,JM,LY,Pv,QT,Hc,Ub,RE,OU,L2,Ut,DU,My,Gb,IQ,FJ,Dz,L0]
def Fv (s:ByteArray):Prop:=(1≤s.data.toList.length∧s.data.toList.length≤16)∧(∃ b,s.data.toList[0]?=some b∧97≤b.toNat∧b.toNat≤122)∧s∉TU∧∀ c∈s.data.toList,Rj c
theorem FE {n:Nd} (h:C8 n):n.tab.ps.length≤9223372036854775807∧n.kids.length≤9223372036854775807∧∀ k∈n.kids,C8 k:=by
 obtain ⟨a,b,c⟩:=(KR n).1 h
 exact ⟨a.1,b,c⟩
theorem Kk {α:Type} {l:List α} {P:α→Prop}:(∀ (i:Nat) (y:α),l[i]?=some y→P y)↔∀ y∈l,P y :=
 ⟨fun h y hy=>(List.getElem?_of_mem hy).elim fun i hi=>h i y hi,fun h i y hi=>h y (List.mem_of_getElem? hi)⟩
theorem nC (s:ByteArray):Ef s=some (mb (s∈TU)):=by
 rw [Ef]
 simp only [Cy,Bm,Fi,aJ]
 refine IV ?_
 simp only [TU,List.mem_cons,List.not_mem_nil,or_false]
theorem aW (s:ByteArray):s=ByteArray.empty↔s.data.toList.length=0:=by
 constructor
 · intro h;rw [h];rfl
 · intro h
   apply ByteArray.ext
   apply Array.ext'
   rw [List.eq_nil_of_length_eq_zero h];rfl
theorem Tf (s:ByteArray):BS s=some (mb (Fv s)):=by
 rw [BS]
 simp only [Cy,D9,Bm,nC,Option.bind_some]
 unfold Fv
 by_cases h0:s=ByteArray.empty
 · rw [Ah h0];exact Gc fun h=>by have:=(aW s).1 h0;omega
 have h1:s.data.toList.length≠0:=fun h=>h0 ((aW s).2 h)
 rw [Af h0]
 by_cases h2:16 < ((s.data.toList.length:Nat):Int)
 · rw [Ah h2];exact Gc fun h=>by omega
 rw [Af h2]
 obtain ⟨b,hb⟩:∃ b,s.data.toList[0]?=some b:=⟨_,List.getElem?_eq_getElem (by omega)⟩
 rw [hb,G9 (v:=false) (P:=fun _ y=>Rj y) (by omega) (fun i y _=>by
   simp only [DQ,D9,Bs,Bm,QS,WI,UH,cR,Va,pJ,kV]
   congr 2
   unfold Rj
   apply propext
   omega)]
 simp only [Option.bind_some,Fi,ZB,Kk]
 refine IV ?_
 constructor
 · rintro ⟨h3,h4,h5,h6⟩
   exact ⟨by omega,⟨b,rfl,by omega⟩,h5,h6⟩
 · rintro ⟨h3,⟨c,hc,h4⟩,h5,h6⟩
   cases hc
   exact ⟨by omega,by omega,h5,h6⟩
theorem iC (s:ByteArray):Du s=some (mb (Sa s)):=by
 rw [Du,Bs,Bm]
 unfold Sa
 by_cases h:((s.data.toList.length:Nat):Int)=3
 · rw [Ah h,G9 (v:=false) (P:=fun _ y=>65≤y.toNat∧y.toNat≤90) (by omega) (fun i y _=>by
     simp only [D6,D9,Bm,UH,Va]
     congr 2;apply propext;omega),Fi,Kk]
   exact IV ⟨fun h2=>⟨by omega,h2⟩,fun h2=>h2.2⟩
 · rw [Af h];exact Gc fun h2=>h (by omega)
theorem Ty (s:ByteArray):Cg s=some (mb (GR s)):=by
 rw [Cg]
 simp only [Cy,Bm,iC,Option.bind_some,aJ]
 rfl
def D0 (n:Int):Prop:=1≤n∧n≤1000000
theorem Lc (n:Int):BD n=some (mb (D0 n)):=by
 rw [BD]
 simp only [EJ,Bm,Fi,DB]
 rfl
def UR (n:Int):Prop:=0≤n∧n≤36524
def Np (s:ByteArray):Prop:=s=DU∨s=My∨s=Gb∨s=IQ
theorem VT (s:ByteArray):CU s=some (mb (Np s)):=by
 rw [CU]
 simp only [Cy,Bm,Fi,aJ]
 rfl
theorem We (a b:List Pc) (ha:a.length≤9223372036854775807):Fc a b=some (mb (a=b)):=by
 rw [Fc,Bs,Bm]
 by_cases h:((a.length:Nat):Int)=((b.length:Nat):Int)
 · rw [Ah h,G9 (v:=false) (P:=fun i y=>b[i]?=some y) ha (fun i y hy=>by
     have hi:i < a.length:=(List.getElem?_eq_some_iff.1 hy).1
     have hb:b[i]?=some b[i]:=List.getElem?_eq_getElem (by omega)
     simp only [FX]
     rw [hb]
     simp only [Option.bind_some]
     have hs:LA y b[i]=mb (b[i]?=some y):=by
       rw [Bool.eq_iff_iff,Bc,hb]
       unfold LA
       simp only [Bool.and_eq_true,IE,beq_iff_eq,Option.some.injEq]
       generalize b[i]=z
       cases y;cases z
       simp only [Pc.mk.injEq]
       grind
     rw [hs,Bm,QS,hb]),Fi]
   refine IV ⟨fun h2=>?_,fun h2 i y hy=>by rw [← h2];exact hy⟩
   apply List.ext_getElem?
   intro i
   by_cases hi:i < a.length
   · rw [List.getElem?_eq_getElem hi,h2 i _ (List.getElem?_eq_getElem hi)]
   · rw [List.getElem?_eq_none (by omega),List.getElem?_eq_none (by omega)]
 · rw [Af h];exact Gc fun h2=>h (by rw [h2])
def CT (n f:Nd):Prop:=n.name=f.name∧n.unit=f.unit∧n.n=f.n∧n.fr=f.fr∧n.to=f.to∧n.known=f.known∧n.tab.den=f.tab.den∧n.tab.ps=f.tab.ps
theorem M1 (n f:Nd) (h:n.tab.ps.length≤9223372036854775807):AT n f=some (mb (CT n f)):=by
 rw [AT,We _ _ h]
 simp only [Cy,Bs,Bm,Option.bind_some,DB]
 rfl
end Mo
end Go.Proofs.YtkfplcngmiljaaaGreatDoor
namespace Go.Proofs.YtkfplcngmiljaaaGreatDoor
open AI Go
namespace Mo
set_option maxRecDepth 100000
set_option maxHeartbeats 4000000
theorem So {p:Prop} (h:¬ p):mb p=false:=by rw [Mf];exact h
def Out (r:Option (Bool×Int)) (P:Prop) (t:Int):Prop:=∃ z,r=some (mb P,z)∧(P→z=t)
theorem Out.congr {r:Option (Bool×Int)} {P Q:Prop} {t u:Int} (h:Out r P t) (hp:P↔Q) (ht:Q→t=u):Out r Q u:=by
 obtain ⟨z,h1,h2⟩:=h
 exact ⟨z,by rw [h1,EW hp],fun q=>(h2 (hp.2 q)).trans (ht q)⟩
theorem EI {Q:Prop} {z u:Int} (h:¬ Q):Out (some (false,z)) Q u:=⟨z,by rw [So h],fun q=>absurd q h⟩
theorem Ll {P Q:Prop} {u:Int} (h:P↔Q):Out (some (mb P,u)) Q u:=⟨u,by rw [EW h],fun _=>rfl⟩
theorem Dp {p Q:Prop} {A:Option (Bool×Int)} {z u:Int} (h:p→Out A Q u) (hq:Q→p):Out (AM p A (some (false,z))) Q u:=by
 by_cases hp:p
 · rw [Ah hp];exact h hp
 · rw [Af hp];exact EI fun q=>hp (hq q)
theorem RH {p Q:Prop} {A:Option (Bool×Int)} {z u:Int} (h:¬ p→Out A Q u) (hq:Q→¬ p):Out (AM p (some (false,z)) A) Q u:=by
 by_cases hp:p
 · rw [Ah hp];exact EI fun q=>hq q hp
 · rw [Af hp];exact h hp
mutual
def D3:Nd→Nat
 | ⟨_,_,_,_,_,_,_,_,kids,_⟩=>1+Gs kids
def Gs:List Nd→Nat
 | []=>0
 | k::ks=>D3 k+Gs ks
end
mutual
def J3:Nd→Nat
 | ⟨_,_,_,_,_,_,_,_,kids,_⟩=>1+Wi kids
def Wi:List Nd→Nat
 | []=>0
 | k::ks=>max (J3 k) (Wi ks)
end
theorem Dy (n:Nd):D3 n=1+Gs n.kids:=by cases n;rw [D3]
theorem Jr (n:Nd):J3 n=1+Wi n.kids:=by cases n;rw [J3]
theorem M4 {l:List Nd} {m:Nat}:Wi l≤m↔∀ k∈l,J3 k≤m:=by
 induction l with
 | nil=>simp [Wi]
 | cons a l ih=>simp only [Wi,Nat.max_le,ih,List.mem_cons,forall_eq_or_imp]
theorem Hl {l:List Nd} {k:Nd} (h:k∈l):D3 k≤Gs l:=by
 induction l with
 | nil=>cases h
 | cons a l ih =>
   rw [Gs]
   rcases List.mem_cons.1 h with rfl | h
   · omega
   · have:=ih h;omega
theorem MK (l:List Nd):l.length≤Gs l:=by
 induction l with
 | nil=>simp [Gs]
 | cons a l ih=>rw [Gs,Dy];simp only [List.length_cons];omega
theorem PW {n k:Nd} (h:k∈n.kids):D3 k < D3 n:=by rw [Dy n];have:=Hl h;omega
theorem I6 {g:Ck→Nd→Int→Option (Bool×Int)} {p:Nd→Prop} {d:Int}:∀ {l:List Nd} {i:Nat} {c:Int},0≤c→c≤2000→(∀ k∈l,∀ c:Int,0≤c→c≤2000→Out (g ⟨c⟩ k d) (p k∧c+D3 k≤2000∧d+J3 k≤41) (c+D3 k)) →
   Out ((Bb (δ:=Int) (ρ:=Bool×Int) (fun _ y (x:Int)=>(g ⟨x⟩ y d).bind fun (y1a,y1b)=>cond y1a (some (.nx y1b)) (some (.rt (false,y1b)))) (fun x=>x) l i c).bind (Kx (fun (w:Int)=>some (true,w)) (fun v=>some v)))
     ((∀ k∈l,p k∧d+J3 k≤41)∧c+Gs l≤2000) (c+Gs l)
 | [],i,c,h0,h1,_=>⟨c,by rw [Bc.2 ⟨fun k hk=>(by cases hk),by simp only [Gs];omega⟩];rfl,fun _=>by simp [Gs]⟩
 | y::l,i,c,h0,h1,hg=>by
   obtain ⟨z,hz,h2⟩:=hg y (by simp) c h0 h1
   rw [Bb,hz]
   simp only [Option.bind_some]
   by_cases hp:p y∧c+D3 y≤2000∧d+J3 y≤41
   · rw [Bc.2 hp,h2 hp]
     show Out ((Bb _ _ l (i+1) (c+D3 y)).bind _) _ _
     refine (I6 (l:=l) (i:=i+1) (c:=c+D3 y) (by omega) hp.2.1 fun k hk=>hg k (by simp [hk])).congr ?_ ?_
     · rw [Gs]
       simp only [List.mem_cons,forall_eq_or_imp,Int.natCast_add]
       constructor
       · rintro ⟨a,b⟩;exact ⟨⟨⟨hp.1,hp.2.2⟩,a⟩,by omega⟩
       · rintro ⟨⟨_,a⟩,b⟩;exact ⟨a,by omega⟩
     · intro _;rw [Gs];omega
   · rw [So hp]
     refine ⟨z,?_,fun q=>?_⟩
     · show some (false,z)=_
       rw [So]
       rintro ⟨a,b⟩
       rw [Gs] at b
       have:=a y (by simp)
       exact hp ⟨this.1,by omega,this.2⟩
     · exfalso
       obtain ⟨a,b⟩:=q
       rw [Gs] at b
       have:=a y (by simp)
       exact hp ⟨this.1,by omega,this.2⟩
theorem NX (n:Nd) {c d:Int} (h0:0≤c) (h1:c≤2000):Out (A7 ⟨c⟩ n d) (c+1≤2000∧d≤40) (c+1):=by
 rw [A7,Ew (by show _≤c+1∧c+1≤_;omega)]
 simp only [EJ,Bm,Option.bind_some]
 by_cases h:c+1≤2000
 · rw [Ah h];exact Ll ⟨fun a=>⟨h,a⟩,fun a=>a.2⟩
 · rw [Af h];exact EI fun a=>h a.1
def La (f:Fn) (i:Nat) (p:Pc):Prop:=p.fr≤999999999999∧(∀ q,0 < i→f.ps[i - 1]?=some q→q.fr < p.fr)∧LS p.att f.den=some 0∧p.att≤OF 999999999999 f.den∧OF (-999999999999) f.den≤p.att∧p.slope≤1000000∧-1000000≤p.slope
def SH (f:Fn):Prop:=D0 f.den∧(1≤f.ps.length∧f.ps.length≤64)∧(∀ x,f.ps[0]?=some x→x.fr=0)∧∀ (i:Nat) p,f.ps[i]?=some p→La f i p
theorem kP (f:Fn) (hl:f.ps.length≤9223372036854775807):C4 f=some (mb (SH f)):=by
 rw [C4,Lc]
 simp only [Option.bind_some,Bm,D9,Bs]
 unfold SH
 by_cases hr:D0 f.den
 rotate_left
 · rw [Af hr];exact Gc fun h=>hr h.1
 rw [Ah hr]
 by_cases h1:((f.ps.length:Nat):Int) < 1
 · rw [Ah h1];exact Gc fun h=>by omega
 rw [Af h1]
 by_cases h2:64 < ((f.ps.length:Nat):Int)
 · rw [Ah h2];exact Gc fun h=>by omega
 rw [Af h2]
 have hx0:f.ps[0]?=some f.ps[0]:=List.getElem?_eq_getElem (by omega)
 rw [hx0]
 simp only [Option.bind_some]
 by_cases h3:f.ps[0].fr=0
 rotate_left
 · rw [Af h3];exact Gc fun h=>h3 (h.2.2.1 _ rfl)
 rw [Ah h3]
 have hden:f.den≠0:=by unfold D0 at hr;omega
 rw [G9 (v:=false) (P:=fun i y=>La f i y) hl (fun i y hy=>by
   have hi:i < f.ps.length:=(List.getElem?_eq_some_iff.1 hy).1
   simp only [Dl,D9,Bm,EJ,Bs]
   have hd:∃ z,LS y.att f.den=some z:=by unfold LS;rw [if_neg hden];exact ⟨_,rfl⟩
   obtain ⟨z,hz⟩:=hd
   unfold La
   rw [hz]
   by_cases h0:(0:Int) < ((i:Nat):Int)
   · rw [Ah h0,Lh (by omega)]
     have hq:f.ps[i - 1]?=some f.ps[i - 1]:=List.getElem?_eq_getElem (by omega)
     have hg:LP f.ps (((i:Nat):Int) - 1)=some f.ps[i - 1]:=by
       unfold LP
       rw [show (((i:Nat):Int) - 1).toNat=i - 1 by omega]
       simp only [hq]
       first | rfl | (rw [if_pos (by omega)])
     rw [hg,hq]
     simp only [Option.bind_some,UH,Va,WI,cR]
     congr 2
     apply propext
     simp only [Option.some.injEq,forall_eq']
     grind
   · rw [Af h0]
     simp only [Option.bind_some,UH,Va,WI,cR]
     congr 2
     apply propext
     simp only [Option.some.injEq]
     have:¬ 0 < i:=by omega
     grind),Fi]
 refine IV ⟨fun h=>⟨hr,by omega,fun x hx=>by cases hx;exact h3,h⟩,fun h=>h.2.2.2⟩
def Oo (s:ByteArray):Prop:=s=H8∨s=QT∨s=Hc∨s=GX∨s=GO∨s=Nb∨s=GP∨s=JY∨s=M0∨s=NO∨s=RE
def JS (k:Nd):Prop:=k.kind=11∧k.unit=Bw∧D0 k.n
def Lr (n:Nd):Prop :=
 (n.kind=11∧GR n.unit∧0≤n.n∧n.n≤999999999999∧(n.unit=A4→n.n≤1)∧n.kids.length=0∧CT n ⟨0,ByteArray.empty,n.unit,n.n,0,0,0,⟨0,[]⟩,[],0⟩) ∨
 (n.kind=12∧Fv n.name∧n.kids.length=0∧CT n ⟨0,n.name,ByteArray.empty,0,0,0,0,⟨0,[]⟩,[],0⟩) ∨
 (n.kind=13∧D0 n.n∧n.kids.length=0∧CT n ⟨0,ByteArray.empty,ByteArray.empty,n.n,0,0,0,⟨0,[]⟩,[],0⟩) ∨
 (n.kind=14∧Np n.name∧n.kids.length=0∧CT n ⟨0,n.name,ByteArray.empty,0,0,0,0,⟨0,[]⟩,[],0⟩) ∨
 (n.kind=15∧n.kids.length=1∧CT n ⟨0,ByteArray.empty,ByteArray.empty,0,0,0,0,⟨0,[]⟩,[],0⟩) ∨
 (n.kind=16∧CT n ⟨0,n.name,ByteArray.empty,0,0,0,0,⟨0,[]⟩,[],0⟩∧n.kids.length=2∧Oo n.name∧(n.name=H8→∀ k,n.kids[1]?=some k→JS k)) ∨
 (n.kind=17∧(n.name=FJ∨n.name=Dz)∧CT n ⟨0,n.name,ByteArray.empty,0,0,0,0,⟨0,[]⟩,[],0⟩∧2≤n.kids.length) ∨
 (n.kind=18∧CT n ⟨0,ByteArray.empty,ByteArray.empty,0,0,0,0,n.tab,[],0⟩∧SH n.tab∧n.kids.length=1)
mutual
def JN:Nd→Prop
 | ⟨kind,name,unit,n,fr,to,known,tab,kids,att⟩=>Lr ⟨kind,name,unit,n,fr,to,known,tab,kids,att⟩∧WA kids
def WA:List Nd→Prop
 | []=>True
 | k::ks=>JN k∧WA ks
end
theorem WN {l:List Nd}:WA l↔∀ k∈l,JN k:=by
 induction l with
 | nil=>simp [WA]
 | cons k l ih=>simp [WA,ih]
theorem MJ (n:Nd):JN n↔Lr n∧∀ k∈n.kids,JN k:=by cases n;rw [JN,WN]
end Mo
end Go.Proofs.YtkfplcngmiljaaaGreatDoor
namespace Go.Proofs.YtkfplcngmiljaaaGreatDoor
open AI Go
namespace Mo
set_option maxRecDepth 100000
set_option maxHeartbeats 4000000
theorem F9 {r:Option (Bool×Int)} {P Q:Prop} {t u:Int} {f:Bool×Int→Option (Bool×Int)} (h:Out r P t) (hT:P→Out (f (true,t)) Q u) (hF:∀ z,¬ P→Out (f (false,z)) Q u):Out (r.bind f) Q u:=by
 obtain ⟨z,rfl,h2⟩:=h
 by_cases hp:P
 · rw [Bc.2 hp,h2 hp];exact hT hp
 · rw [So hp];exact hF z hp
theorem gL {Q:Prop} {t u:Int} (hq:Q) (h:t=u):Out (some (true,t)) Q u:=⟨t,by rw [Bc.2 hq],fun _=>h⟩
theorem F6 {r:Option (Bool×Int)} {P Q:Prop} {t u:Int} (h:Out r P t) (hp:P↔Q) (ht:P→t=u):Out (r.bind fun (a,b)=>some (a,b)) Q u :=
 F9 h (fun p=>gL (hp.1 p) (ht p)) fun _ p=>EI fun q=>p (hp.2 q)
section
variable {p q r:Prop} {z:Int}
theorem P8:AM p (some (mb q,z)) (some (false,z))=some (mb (p∧q),z):=by
 by_cases h:p
 · rw [Ah h];congr 2;exact EW ⟨fun a=>⟨h,a⟩,fun a=>a.2⟩
 · rw [Af h,So];exact fun a=>h a.1
theorem Su:AM p (some (false,z)) (some (mb q,z))=some (mb (¬ p∧q),z):=by
 by_cases h:p
 · rw [Ah h,So];exact fun a=>a.1 h
 · rw [Af h];congr 2;exact EW ⟨fun a=>⟨h,a⟩,fun a=>a.2⟩
theorem Ue:AM p (some (mb q,z)) (some (mb r,z))=some (mb ((p→q)∧(¬ p→r)),z):=by
 by_cases h:p
 · rw [Ah h];congr 2;exact EW ⟨fun a=>⟨fun _=>a,fun b=>absurd h b⟩,fun a=>a.1 h⟩
 · rw [Af h];congr 2;exact EW ⟨fun a=>⟨fun b=>absurd b h,fun _=>a⟩,fun a=>a.2 h⟩
end
section
variable {n:Nd}
theorem Yy (h:n.kind=11):Lr n↔GR n.unit∧0≤n.n∧n.n≤999999999999∧(n.unit=A4→n.n≤1)∧n.kids.length=0∧CT n ⟨0,ByteArray.empty,n.unit,n.n,0,0,0,⟨0,[]⟩,[],0⟩:=by unfold Lr;simp [h]
theorem kT (h:n.kind=12):Lr n↔Fv n.name∧n.kids.length=0∧CT n ⟨0,n.name,ByteArray.empty,0,0,0,0,⟨0,[]⟩,[],0⟩:=by unfold Lr;simp [h]
theorem nI (h:n.kind=13):Lr n↔D0 n.n∧n.kids.length=0∧CT n ⟨0,ByteArray.empty,ByteArray.empty,n.n,0,0,0,⟨0,[]⟩,[],0⟩:=by unfold Lr;simp [h]
theorem lA (h:n.kind=14):Lr n↔Np n.name∧n.kids.length=0∧CT n ⟨0,n.name,ByteArray.empty,0,0,0,0,⟨0,[]⟩,[],0⟩:=by unfold Lr;simp [h]
theorem dS (h:n.kind=15):Lr n↔n.kids.length=1∧CT n ⟨0,ByteArray.empty,ByteArray.empty,0,0,0,0,⟨0,[]⟩,[],0⟩:=by unfold Lr;simp [h]
theorem eV (h:n.kind=16):Lr n↔CT n ⟨0,n.name,ByteArray.empty,0,0,0,0,⟨0,[]⟩,[],0⟩∧n.kids.length=2∧Oo n.name∧(n.name=H8→∀ k,n.kids[1]?=some k→JS k):=by unfold Lr;simp [h]
theorem cZ (h:n.kind=17):Lr n↔(n.name=FJ∨n.name=Dz)∧CT n ⟨0,n.name,ByteArray.empty,0,0,0,0,⟨0,[]⟩,[],0⟩∧2≤n.kids.length:=by unfold Lr;simp [h]
theorem dQ (h:n.kind=18):Lr n↔CT n ⟨0,ByteArray.empty,ByteArray.empty,0,0,0,0,n.tab,[],0⟩∧SH n.tab∧n.kids.length=1:=by unfold Lr;simp [h]
theorem PK (h:Lr n):n.kind=11∨n.kind=12∨n.kind=13∨n.kind=14∨n.kind=15∨n.kind=16∨n.kind=17∨n.kind=18:=by
 unfold Lr at h
 rcases h with h | h | h | h | h | h | h | h
 all_goals
   have:=h.1
   simp [this]
end
def Hg (l:List Nd) (c d:Int):Prop:=(∀ k∈l,JN k∧d+J3 k≤41)∧c+Gs l≤2000
theorem cE {l:List Nd} {c d:Int} (h:l.length=0) (hc:c≤2000):Hg l c d∧c=c+Gs l:=by
 obtain rfl:=List.eq_nil_of_length_eq_zero h
 exact ⟨⟨(fun k hk=>(by cases hk)),(by simp only [Gs];omega)⟩,(by simp [Gs])⟩
theorem bR {x:Nd} {c d:Int}:Hg [x] c d↔JN x∧c+D3 x≤2000∧d+J3 x≤41:=by
 unfold Hg
 simp only [List.mem_singleton,forall_eq,Gs,Nat.add_zero]
 exact ⟨fun a=>⟨a.1.1,a.2,a.1.2⟩,fun a=>⟨⟨a.1,a.2.2⟩,a.2.1⟩⟩
theorem RF {x y:Nd} {c d:Int}:Hg [x,y] c d↔(JN x∧c+D3 x≤2000∧d+J3 x≤41)∧JN y∧c+D3 x+D3 y≤2000∧d+J3 y≤41:=by
 unfold Hg
 simp only [List.mem_cons,List.not_mem_nil,or_false,forall_eq_or_imp,forall_eq,Gs,Nat.add_zero,Int.natCast_add]
 constructor
 · rintro ⟨⟨⟨a,b⟩,c',d'⟩,e⟩;exact ⟨⟨a,by omega,b⟩,c',by omega,d'⟩
 · rintro ⟨⟨a,b,c'⟩,d',e,f⟩;exact ⟨⟨⟨a,c'⟩,d',f⟩,by omega⟩
abbrev lW (g:Ck→Nd→Int→Option (Bool×Int)) (n:Nd):Prop:=∀ (c d:Int),0≤c→c≤2000→0≤d→d≤41→Out (g ⟨c⟩ n d) (JN n∧c+D3 n≤2000∧d+J3 n≤41) (c+D3 n)
theorem Po {g:Ck→Nd→Int→Option (Bool×Int)} {b a:Ck→Nd→Int→Option (Bool×Int)} {l:Ck→List Nd→Int→Option (Bool×Int)} {n:Nd} (h:lW g n) {c d:Int} (h0:0≤c) (h1:c≤2000) (h2:0≤d) (h3:d≤41) :
   Out (Bk g b a l ⟨c⟩ n d) ((JN n∧JS n)∧c+D3 n≤2000∧d+J3 n≤41) (c+D3 n):=by
 rw [Bk]
 simp only [Bs,Cy,Bm,Lc,Option.bind_some]
 refine F9 (h c d h0 h1 h2 h3) (fun hp=>?_) fun z hp=>EI fun q=>hp ⟨q.1.1,q.2⟩
 show Out (AM (n.kind=11) (AM (n.unit=Bw) (some (mb (D0 n.n),c+D3 n)) (some (false,c+D3 n))) (some (false,c+D3 n))) _ _
 rw [P8,P8]
 exact Ll ⟨fun a=>⟨⟨hp.1,a⟩,hp.2⟩,fun a=>a.1.2⟩
theorem Uk {g n':Ck→Nd→Int→Option (Bool×Int)} {b:Ck→Nd→Int→Option (Bool×Int)} {l:Ck→List Nd→Int→Option (Bool×Int)} {n:Nd} (hg:∀ k∈n.kids,lW g k)
   (hn:∀ k∈n.kids,∀ c d:Int,0≤c→c≤2000→0≤d→d≤41→Out (n' ⟨c⟩ k d) ((JN k∧JS k)∧c+D3 k≤2000∧d+J3 k≤41) (c+D3 k)) {c d:Int} (h0:0≤c) (h1:c≤2000) (h2:0≤d) (h3:d≤40) :
   Out (Bj g b n' l ⟨c⟩ n d) ((n.kids.length=2∧Oo n.name∧(n.name=H8→∀ k,n.kids[1]?=some k→JS k))∧Hg n.kids c (d+1)) (c+Gs n.kids):=by
 rw [Bj,Ew (by omega)]
 simp only [Bs,Cy,Bm]
 generalize hl:n.kids=ks at *
 by_cases hlen:((ks.length:Nat):Int)=2
 rotate_left
 · rw [Af hlen];exact EI fun q=>hlen (by have:=q.1.1;omega)
 rw [Ah hlen]
 match ks,hlen with
 | [x,y],_ =>
 simp only [List.getElem?_cons_zero,List.getElem?_cons_succ,Option.bind_some]
 refine F9 (hg x (by simp) c (d+1) h0 h1 (by omega) (by omega)) (fun hx=>?_) fun z hx=>EI fun q=>hx (RF.1 q.2).1
 dsimp only
 rw [cond_true]
 have hsz:Gs [x,y]=D3 x+D3 y:=by simp [Gs]
 have hy:=fun hc=>hg y (by simp) (c+D3 x) (d+1) (by omega) hc (by omega) (by omega)
 have hn':=fun hc=>hn y (by simp) (c+D3 x) (d+1) (by omega) hc (by omega) (by omega)
 have hy:=hy hx.2.1
 have hn':=hn' hx.2.1
 by_cases hs:n.name=H8
 · rw [Ah hs]
   refine F6 hn' ⟨fun a=>⟨⟨rfl,.inl hs,fun _ k hk=>by cases hk;exact a.1.2⟩,RF.2 ⟨hx,a.1.1,a.2⟩⟩,fun a=>?_⟩ (fun a=>by rw [hsz];omega)
   have:=(RF.1 a.2).2
   exact ⟨⟨this.1,a.1.2.2 hs y rfl⟩,this.2⟩
 · rw [Af hs]
   have fin:∀ hop:Oo n.name,Out ((g ⟨c+D3 x⟩ y (d+1)).bind fun (a,b)=>some (a,b)) ((([x,y]:List Nd).length=2∧Oo n.name∧(n.name=H8→∀ k,some y=some k→JS k))∧Hg [x,y] c (d+1)) (c+Gs [x,y]):=fun hop =>
     F6 hy ⟨fun a=>⟨⟨rfl,hop,fun e=>absurd e hs⟩,RF.2 ⟨hx,a⟩⟩,fun a=>(RF.1 a.2).2⟩ (fun a=>by rw [hsz];omega)
   have step:∀ {s:ByteArray} {A:Option (Bool×Int)},(n.name=s→Oo n.name)→(n.name≠s→Out A ((([x,y]:List Nd).length=2∧Oo n.name∧(n.name=H8→∀ k,some y=some k→JS k))∧Hg [x,y] c (d+1)) (c+Gs [x,y])) →
       Out (AM (n.name=s) ((g ⟨c+D3 x⟩ y (d+1)).bind fun (a,b)=>some (a,b)) A) ((([x,y]:List Nd).length=2∧Oo n.name∧(n.name=H8→∀ k,some y=some k→JS k))∧Hg [x,y] c (d+1)) (c+Gs [x,y]):=by
     intro s A h4 h5
     by_cases h:n.name=s
     · rw [Ah h];exact fin (h4 h)
     · rw [Af h];exact h5 h
   refine step (fun e=>by unfold Oo;simp [e]) fun e1=>?_
   refine step (fun e=>by unfold Oo;simp [e]) fun e2=>?_
   refine step (fun e=>by unfold Oo;simp [e]) fun e3=>?_
   refine step (fun e=>by unfold Oo;simp [e]) fun e4=>?_
   refine step (fun e=>by unfold Oo;simp [e]) fun e5=>?_
   refine step (fun e=>by unfold Oo;simp [e]) fun e6=>?_
   refine step (fun e=>by unfold Oo;simp [e]) fun e7=>?_
   refine step (fun e=>by unfold Oo;simp [e]) fun e8=>?_
   refine step (fun e=>by unfold Oo;simp [e]) fun e9=>?_
   refine step (fun e=>by unfold Oo;simp [e]) fun jS=>?_
   exact EI fun q=>by
     have:=q.1.2.1
     unfold Oo at this
     simp [hs,e1,e2,e3,e4,e5,e6,e7,e8,e9,jS] at this
theorem Vr {A L B T:Prop} {x:Int}:(A∧¬ x < 0∧¬ 999999999999 < x∧(T→¬ 1 < x∧L∧B)∧(¬ T→L∧B))↔A∧0≤x∧x≤999999999999∧(T→x≤1)∧L∧B:=by
 constructor
 · rintro ⟨a,b,c,d,e⟩
   by_cases t:T
   · exact ⟨a,by omega,by omega,fun _=>by have:=(d t).1;omega,(d t).2⟩
   · exact ⟨a,by omega,by omega,fun h=>absurd h t,e t⟩
 · rintro ⟨a,b,c,d,e⟩
   exact ⟨a,by omega,by omega,fun t=>⟨by have:=d t;omega,e⟩,fun _=>e⟩
theorem Vm:∀ (q:Nat) (n:Nd),C8 n→3*D3 n≤q→lW (An q) n:=by
 intro q
 induction q using Nat.strongRecOn with
 | _ q ih =>
 intro n hok hq c d h0 h1 h2 h3
 have hsz:=Dy n
 obtain ⟨q,rfl⟩:∃ k,q=k+1:=⟨q - 1,by omega⟩
 obtain ⟨hps,hkl,hks⟩:=FE hok
 have hE:∀ k∈n.kids,∀ q',q≤q'+2→q' < q+1→lW (An q') k:=fun k hk q' h4 h5=>ih q' h5 k (hks k hk) (by have:=Hl hk;omega)
 rw [An,BV]
 refine F9 (NX n h0 h1) (fun hp=>?_) fun z hp=>EI fun a=>hp ⟨by omega,by have:=Jr n;omega⟩
 dsimp only
 rw [cond_true]
 refine Out.congr (P:=Lr n∧Hg n.kids (c+1) (d+1)) (t:=(c+1)+Gs n.kids) ?_ ?_ (fun _=>by omega)
 rotate_left
 · rw [MJ,Jr]
   unfold Hg
   have hd:=@M4 n.kids
   constructor
   · rintro ⟨a,b,e⟩
     refine ⟨⟨a,fun k hk=>(b k hk).1⟩,by omega,?_⟩
     have:=(hd (m:=(40 - d).toNat)).2 fun k hk=>by have:=(b k hk).2;omega
     omega
   · rintro ⟨⟨a,b⟩,e,f⟩
     refine ⟨a,fun k hk=>⟨b k hk,?_⟩,by omega⟩
     have:=(hd (m:=Wi n.kids)).1 (Nat.le_refl _) k hk
     omega
 have hc1:=hp.1
 have hd1:=hp.2
 rw [Ew (a:=d) (b:=1) (by omega)]
 have e0:(((n.kids.length:Nat):Int)=0)=(n.kids.length=0):=propext (by omega)
 simp only [Bs,EJ,D9,Cy,Bm,Ty,Tf,Lc,VT,kP _ hps,M1 _ _ hps,Option.bind_some,e0]
 have hleaf:∀ {B:Prop},(B↔Lr n)→(B→n.kids.length=0)→Out (some (mb B,c+1)) (Lr n∧Hg n.kids (c+1) (d+1)) (c+1+Gs n.kids):=fun hB hk=>(Ll hB).congr ⟨fun a=>⟨a,(cE (hk (hB.2 a)) hc1).1⟩,fun a=>a.1⟩ fun a=>(cE (d:=d+1) (hk (hB.2 a.1)) hc1).2
 have hone:∀ {B:Prop},(Lr n↔B∧n.kids.length=1)→B→n.kids.length=1→Out ((n.kids[0]?).bind fun x=>(An q ⟨c+1⟩ x (d+1)).bind fun (a,b)=>some (a,b)) (Lr n∧Hg n.kids (c+1) (d+1)) (c+1+Gs n.kids):=by
   intro B hB hb hl
   have hE0:=fun k hk=>hE k hk q (by omega) (by omega)
   have hx:=hB.2 ⟨hb,hl⟩
   generalize n.kids=ks at *
   match ks,hl with
   | [x],_ =>
   simp only [List.getElem?_cons_zero,Option.bind_some]
   refine F6 (hE0 x (by simp) (c+1) (d+1) (by omega) hc1 (by omega) (by omega)) ⟨fun a=>⟨hx,bR.2 a⟩,fun a=>bR.1 a.2⟩ fun _=>?_
   simp [Gs]
 by_cases WH:n.kind=11
 · rw [Ah WH]
   simp only [P8,Su,Ue]
   refine hleaf ?_ ?_
   · rw [Yy WH];exact Vr
   · intro h;exact (Vr.1 h).2.2.2.2.1
 rw [Af WH]
 by_cases Wg:n.kind=12
 · rw [Ah Wg]
   simp only [P8,Su,Ue]
   refine hleaf ?_ ?_
   · rw [kT Wg]
   · intro h;exact h.2.1
 rw [Af Wg]
 by_cases V2:n.kind=13
 · rw [Ah V2]
   simp only [P8,Su,Ue]
   refine hleaf ?_ ?_
   · rw [nI V2]
   · intro h;exact h.2.1
 rw [Af V2]
 by_cases WD:n.kind=14
 · rw [Ah WD]
   simp only [P8,Su,Ue]
   refine hleaf ?_ ?_
   · rw [lA WD]
   · intro h;exact h.2.1
 rw [Af WD]
 by_cases Ws:n.kind=15
 · rw [Ah Ws]
   have e:=dS Ws
   refine Dp (fun hl=>Dp (fun hb=>hone (e.trans And.comm) hb (by omega)) fun a=>(e.1 a.1).2) fun a=>?_
   have:=(e.1 a.1).1
   omega
 rw [Af Ws]
 by_cases TX:n.kind=16
 · rw [Ah TX]
   have e:=eV TX
   refine Dp (fun hb=>?_) fun a=>(e.1 a.1).1
   obtain ⟨q,rfl⟩:∃ k,q=k+1:=⟨q - 1,by omega⟩
   rw [Av]
   refine F6 (Uk (g:=An q) (b:=Av q) (n':=Aq q) (l:=Am q) (fun k hk=>hE k hk q (by omega) (by omega)) (fun k hk c d a1 a2 a3 a4=>?_) (by omega) hc1 h2 hd1) ?_ fun _=>rfl
   · obtain ⟨q,rfl⟩:∃ k,q=k+1:=⟨q - 1,by have:=PW hk;have:=Dy k;omega⟩
     rw [Aq]
     exact Po (hE k hk q (by omega) (by omega)) a1 a2 a3 a4
   · rw [e]
     exact ⟨fun a=>⟨⟨hb,a.1⟩,a.2⟩,fun a=>⟨a.1.2,a.2⟩⟩
 rw [Af TX]
 by_cases XE:n.kind=17
 · rw [Ah XE]
   have e:=cZ XE
   have hall:(n.name=FJ∨n.name=Dz)→Out (AM (CT n ⟨0,n.name,ByteArray.empty,0,0,0,0,⟨0,[]⟩,[],0⟩) (AM (2≤((n.kids.length:Nat):Int)) ((Am q ⟨c+1⟩ n.kids (d+1)).bind fun (a,b)=>some (a,b)) (some (false,c+1))) (some (false,c+1))) (Lr n∧Hg n.kids (c+1) (d+1)) (c+1+Gs n.kids):=by
     intro hn
     refine Dp (fun hb=>Dp (fun hl=>?_) fun a=>?_) fun a=>(e.1 a.1).2.1
     · obtain ⟨q,rfl⟩:∃ k,q=k+1:=⟨q - 1,by have:=MK n.kids;omega⟩
       rw [Am,Bp,Gd hkl,List.drop_zero]
       dsimp only
       refine F6 (I6 (g:=An q) (p:=JN) (d:=d+1) (by omega) hc1 fun k hk c' b0 b1=>hE k hk q (by omega) (by omega) c' (d+1) b0 b1 (by omega) (by omega)) ?_ fun _=>rfl
       rw [e]
       exact ⟨fun a=>⟨⟨hn,hb,by omega⟩,a⟩,fun a=>a.2⟩
     · have:=(e.1 a.1).2.2
       omega
   by_cases hn1:n.name=FJ
   · rw [Ah hn1];exact hall (.inl hn1)
   · rw [Af hn1]
     exact Dp (fun hn2=>hall (.inr hn2)) fun a=>(e.1 a.1).1.resolve_left hn1
 rw [Af XE]
 by_cases WJ:n.kind=18
 · rw [Ah WJ]
   have e:=dQ WJ
   refine Dp (fun hb=>Dp (fun ht=>Dp (fun hl=>hone (B:=CT n ⟨0,ByteArray.empty,ByteArray.empty,0,0,0,0,n.tab,[],0⟩∧SH n.tab) (e.trans (by rw [and_assoc])) ⟨hb,ht⟩ (by omega)) fun a=>?_) fun a=>(e.1 a.1).2.1) fun a=>(e.1 a.1).1
   have:=(e.1 a.1).2.2
   omega
 rw [Af WJ]
 exact EI fun a=>by have:=PK a.1;omega
def Le {β:Type} (a b:Option β):Prop:=∀ y,a=some y→b=some y
section
variable {α β γ δ ρ:Type}
theorem Le.refl (a:Option β):Le a a:=fun _ h=>h
theorem FR {a a':Option α} {f g:α→Option β} (h:Le a a') (k:∀ x,Le (f x) (g x)):Le (a.bind f) (a'.bind g):=by
 intro y hy
 cases a with
 | none=>cases hy
 | some x=>rw [h x rfl];exact k x y hy
theorem ML {b:Bool} {x x' y y':Option β} (h:Le x x') (k:Le y y'):Le (cond b x y) (cond b x' y'):=by cases b;exact k;exact h
theorem Vp {n:Nat} {x x':Option β} (h:Le x x'):Le (JQ n x) (JQ n x'):=by
 unfold JQ
 split
 · exact h
 · exact Le.refl _
theorem Qe {body body':Nat→α→γ→Option (Lp γ δ ρ)} {done:γ→δ} (h:∀ i y x,Le (body i y x) (body' i y x)):∀ (l:List α) (i:Nat) (x:γ),Le (Bb body done l i x) (Bb body' done l i x)
 | [],_,_=>Le.refl _
 | a::l,i,x=>by
   rw [Bb,Bb]
   refine FR (h i a x) fun z=>?_
   cases z with
   | nx x'=>exact Qe h l (i+1) x'
   | ex d=>exact Le.refl _
   | rt v=>exact Le.refl _
end
theorem PD:∀ q:Nat,(∀ c n d,Le (An q c n d) (An (q+1) c n d))∧(∀ c n d,Le (Av q c n d) (Av (q+1) c n d))∧(∀ c n d,Le (Aq q c n d) (Aq (q+1) c n d))∧(∀ c n d,Le (Am q c n d) (Am (q+1) c n d))
 | 0=>⟨(fun _ _ _ _ h=>nomatch h),(fun _ _ _ _ h=>nomatch h),(fun _ _ _ _ h=>nomatch h),(fun _ _ _ _ h=>nomatch h)⟩
 | q+1=>by
   obtain ⟨i1,i2,i3,i4⟩:=PD q
   refine ⟨fun c n d=>?_,fun c n d=>?_,fun c n d=>?_,fun c n d=>?_⟩
   · rw [An,An,BV,BV]
     repeat' first
       | exact Le.refl _
       | exact i1 _ _ _
       | exact i2 _ _ _
       | exact i4 _ _ _
       | refine ML ?_ ?_
       | refine FR ?_ fun ⟨_,_⟩=>?_
       | refine FR ?_ fun _=>?_
   · rw [Av,Av,Bj,Bj]
     repeat' first
       | exact Le.refl _
       | exact i1 _ _ _
       | exact i3 _ _ _
       | refine ML ?_ ?_
       | refine FR ?_ fun ⟨_,_⟩=>?_
       | refine FR ?_ fun _=>?_
   · rw [Aq,Aq,Bk,Bk]
     exact FR (i1 _ _ _) fun _=>Le.refl _
   · rw [Am,Am,Bp,Bp]
     refine FR (Vp (Qe (fun i y x=>?_) _ _ _)) fun _=>Le.refl _
     rw [BH,BH]
     exact FR (i1 _ _ _) fun _=>Le.refl _
theorem RX {β:Type} {f:Nat→Option β} (h:∀ q,Le (f q) (f (q+1))) {q:Nat} {y:β} (hy:f q=some y):Vf f=some y:=by
 refine Lt q fun m hm=>?_
 induction m with
 | zero=>obtain rfl:q=0:=by omega
         exact hy
 | succ m ih =>
   rcases Nat.lt_or_ge m q with hlt | hge
   · obtain rfl:q=m+1:=by omega
     exact hy
   · exact h m y (ih hge)
theorem Xc {n:Nd} (hok:C8 n):lW C6 n:=by
 intro c d h0 h1 h2 h3
 obtain ⟨z,hz,hz2⟩:=Vm (3*D3 n) n hok (Nat.le_refl _) c d h0 h1 h2 h3
 exact ⟨z,RX (fun q=>(PD q).1 _ _ _) hz,hz2⟩
theorem Wq {n:Nd} (hok:C8 n) {c d:Int} (h0:0≤c) (h1:c≤2000) (h2:0≤d) (h3:d≤41):Out (CN ⟨c⟩ n d) ((JN n∧JS n)∧c+D3 n≤2000∧d+J3 n≤41) (c+D3 n):=by
 obtain ⟨z,hz,hz2⟩:=Po (g:=An (3*D3 n)) (b:=Av (3*D3 n)) (a:=Aq (3*D3 n)) (l:=Am (3*D3 n)) (Vm (3*D3 n) n hok (Nat.le_refl _)) h0 h1 h2 h3
 exact ⟨z,RX (q:=3*D3 n+1) (fun q=>(PD q).2.2.1 _ _ _) (by rw [Aq];exact hz),hz2⟩
end Mo
end Go.Proofs.YtkfplcngmiljaaaGreatDoor
namespace Go.Proofs.YtkfplcngmiljaaaGreatDoor
open AI Go
namespace Mo
set_option maxRecDepth 100000
set_option maxHeartbeats 4000000
abbrev z0:Nd:=⟨0,ByteArray.empty,ByteArray.empty,0,0,0,0,⟨0,[]⟩,[],0⟩
theorem fN (n:Int):C0 n=some (mb (UR n)):=by
 rw [C0]
 simp only [EJ,Bm,Fi,DB]
 rfl
def H3 (n:Nd):Prop:=n.kind=5∧(0≤n.n∧n.n≤1000000)∧n.kids.length=0∧UR n.fr∧(n.fr < n.to∧n.to≤36525)∧UR n.known∧CT n ⟨0,ByteArray.empty,ByteArray.empty,n.n,n.fr,n.to,n.known,⟨0,[]⟩,[],0⟩
def Bv (n:Nd):Prop:=CT n z0∧(n.kind=7→0 < n.kids.length∧∀ k∈n.kids,JN k∧JS k)∧(n.kind≠7→n.kids.length=1∧∀ k∈n.kids,JN k)
theorem Tu {n:Nd} (h:n.kids.length=0):D3 n=1∧J3 n=1:=by
 have:=List.eq_nil_of_length_eq_zero h
 rw [Dy,Jr,this]
 exact ⟨rfl,rfl⟩
theorem c6 {n:Nd} (hok:C8 n) {c d:Int} (h0:0≤c) (h1:c≤2000):Out (Cv ⟨c⟩ n d) (H3 n∧c+D3 n≤2000∧d+J3 n≤41) (c+D3 n):=by
 obtain ⟨hps,hkl,hks⟩:=FE hok
 have hsz:=Dy n
 have hdp:=Jr n
 rw [Cv]
 refine F9 (NX n h0 h1) (fun hp=>?_) fun z hp=>EI fun a=>hp ⟨by omega,by omega⟩
 dsimp only
 rw [cond_true]
 simp only [Bs,EJ,D9,Bm,fN,M1 _ _ hps,Option.bind_some,P8,Su]
 have key:(n.kind=5∧¬ n.n < 0∧¬ 1000000 < n.n∧¬ (0:Int) < ((n.kids.length:Nat):Int)∧UR n.fr∧¬ n.to≤n.fr∧¬ 36525 < n.to∧UR n.known∧CT n ⟨0,ByteArray.empty,ByteArray.empty,n.n,n.fr,n.to,n.known,⟨0,[]⟩,[],0⟩)↔H3 n:=by
   unfold H3
   constructor
   · rintro ⟨a,b,c',e,f,g,h,i,j⟩;exact ⟨a,⟨by omega,by omega⟩,by omega,f,⟨by omega,by omega⟩,i,j⟩
   · rintro ⟨a,b,c',f,g,i,j⟩;exact ⟨a,by omega,by omega,by omega,f,by omega,by omega,i,j⟩
 refine (Ll key).congr ⟨fun a=>⟨a,?_⟩,fun a=>a.1⟩ fun a=>?_
 · have:=Tu a.2.2.1;omega
 · have:=Tu a.1.2.2.1;omega
theorem WG {n:Nd} (hok:C8 n) {c d:Int} (h0:0≤c) (h1:c≤2000) (h2:0≤d):Out (BC ⟨c⟩ n d) (Bv n∧c+D3 n≤2000∧d+J3 n≤41) (c+D3 n):=by
 obtain ⟨hps,hkl,hks⟩:=FE hok
 have hsz:=Dy n
 have hdp:=Jr n
 have hd:=@M4 n.kids
 rw [BC]
 refine F9 (NX n h0 h1) (fun hp=>?_) fun z hp=>EI fun a=>hp ⟨by omega,by omega⟩
 dsimp only
 rw [cond_true,Ew (a:=d) (b:=1) (by omega)]
 simp only [Bs,D9,Bm,M1 _ _ hps,Option.bind_some]
 have hc1:=hp.1
 have hd1:=hp.2
 have Ls:(∀ k∈n.kids,d+1+J3 k≤41)↔d+J3 n≤41:=by
   constructor
   · intro h
     have:=(hd (m:=(40 - d).toNat)).2 fun k hk=>by have:=h k hk;omega
     omega
   · intro h k hk
     have:=(hd (m:=Wi n.kids)).1 (Nat.le_refl _) k hk
     omega
 refine Dp (fun hb=>?_) fun a=>a.1.1
 by_cases k7:n.kind=7
 · rw [Ah k7]
   refine Dp (fun hl=>?_) fun a=>by have:=(a.1.2.1 k7).1;omega
   rw [Ca,Gd hkl,List.drop_zero]
   dsimp only
   refine F6 (I6 (g:=CN) (p:=fun k=>JN k∧JS k) (d:=d+1) (by omega) hc1 fun k hk c' b0 b1=>Wq (hks k hk) b0 b1 (by omega) (by omega)) ⟨fun a=>⟨⟨hb,fun _=>⟨by omega,fun k hk=>(a.1 k hk).1⟩,fun h=>absurd k7 h⟩,by omega,Ls.1 fun k hk=>(a.1 k hk).2⟩,fun a=>⟨fun k hk=>⟨(a.1.2.1 k7).2 k hk,Ls.2 a.2.2 k hk⟩,by omega⟩⟩ fun _=>by omega
 · rw [Af k7]
   refine Dp (fun hl=>?_) fun a=>by have:=(a.1.2.2 k7).1;omega
   have hl1:n.kids.length=1:=by omega
   unfold Bv
   generalize n.kids=ks at *
   match ks,hl1 with
   | [x],_ =>
   simp only [List.getElem?_cons_zero,Option.bind_some]
   have e1:Gs [x]=D3 x:=by simp [Gs]
   refine F6 (Xc (hks x (by simp)) (c+1) (d+1) (by omega) hc1 (by omega) (by omega)) ⟨fun a=>⟨⟨hb,fun h=>absurd h k7,fun _=>⟨rfl,fun k hk=>by rw [List.mem_singleton.1 hk];exact a.1⟩⟩,by omega,Ls.1 fun k hk=>by rw [List.mem_singleton.1 hk];exact a.2.2⟩,fun a=>⟨(a.1.2.2 k7).2 x (by simp),by omega,Ls.2 a.2.2 x (by simp)⟩⟩ fun _=>by omega
def BQ (k:Int):List Nd→Nat
 | []=>0
 | a::l=>(if a.kind=k then 1 else 0)+BQ k l
theorem Zm (k:Int) (l:List Nd):BQ k l≤l.length:=by
 induction l with
 | nil=>simp [BQ]
 | cons a l ih=>simp only [BQ,List.length_cons];split<;>omega
def kinds (l:List Nd):Prop:=∀ k∈l,6≤k.kind∧k.kind≤8
theorem M6 {y:Int}:∀ {l:List Nd} {i:Nat} {a b c:Int},0≤a→0≤b→0≤c→a+l.length≤9223372036854775807→b+l.length≤9223372036854775807→c+l.length≤9223372036854775807 →
   Bb (fun i z x=>BJ y i z x.1 x.2.1 x.2.2) (fun x=>(x.1,x.2.1,x.2.2)) l i (a,b,c)=some (AM (kinds l) (.inl (a+BQ 6 l,b+BQ 7 l,c+BQ 8 l)) (.inr (false,y)))
 | [],i,a,b,c,_,_,_,_,_,_=>by rw [Ah (show kinds [] from fun k hk=>(by cases hk))];simp [Bb,BQ]
 | z::l,i,a,b,c,h1,h2,h3,h4,h5,h6=>by
   simp only [List.length_cons] at h4 h5 h6
   rw [Bb,BJ]
   simp only [D9,Bs,Bm]
   have hk:kinds (z::l)↔(6≤z.kind∧z.kind≤8)∧kinds l:=by unfold kinds;simp
   have go:∀ {a' b' c':Int},0≤a'→0≤b'→0≤c'→a'≤a+1→b'≤b+1→c'≤c+1→6≤z.kind∧z.kind≤8→a'+BQ 6 l=a+BQ 6 (z::l)→b'+BQ 7 l=b+BQ 7 (z::l)→c'+BQ 8 l=c+BQ 8 (z::l) →
       (some (Lp.nx (a',b',c'))).bind (G5 (Bb (fun i z x=>BJ y i z x.1 x.2.1 x.2.2) (fun x=>(x.1,x.2.1,x.2.2)) l (i+1)))=some (AM (kinds (z::l)) (.inl (a+BQ 6 (z::l),b+BQ 7 (z::l),c+BQ 8 (z::l))) (.inr (false,y))):=by
     intro a' b' c' g1 g2 g3 g4 g5 g6 gk e1 e2 e3
     show Bb _ _ l (i+1) (a',b',c')=_
     rw [M6 g1 g2 g3 (by omega) (by omega) (by omega),e1,e2,e3]
     by_cases hl:kinds l
     · rw [Ah hl,Ah (hk.2 ⟨gk,hl⟩)]
     · rw [Af hl,Af fun q=>hl (hk.1 q).2]
   by_cases k6:z.kind < 6
   · rw [Ah k6,Af fun q=>by have:=(hk.1 q).1;omega];rfl
   rw [Af k6]
   by_cases k8:8 < z.kind
   · rw [Ah k8,Af fun q=>by have:=(hk.1 q).1;omega];rfl
   rw [Af k8]
   by_cases e6:z.kind=6
   · rw [Ah e6,Ew (by omega)]
     exact go (by omega) h2 h3 (by omega) (by omega) (by omega) (by omega) (by simp [BQ,e6];omega) (by simp [BQ,e6]) (by simp [BQ,e6])
   rw [Af e6]
   by_cases e7:z.kind=7
   · rw [Ah e7,Ew (by omega)]
     exact go h1 (by omega) h3 (by omega) (by omega) (by omega) (by omega) (by simp [BQ,e7]) (by simp [BQ,e7];omega) (by simp [BQ,e7])
   rw [Af e7]
   have e8:z.kind=8:=by omega
   rw [Ah e8,Ew (by omega)]
   exact go h1 h2 (by omega) (by omega) (by omega) (by omega) (by omega) (by simp [BQ,e8]) (by simp [BQ,e8]) (by simp [BQ,e8];omega)
def YU (n:Nd):Prop:=D0 n.n∧Fv n.name∧CT n ⟨0,n.name,ByteArray.empty,n.n,0,0,0,⟨0,[]⟩,[],0⟩∧∃ h cs,n.kids=h::cs∧kinds cs∧BQ 8 cs=1∧BQ 7 cs≤1∧H3 h∧∀ k∈cs,Bv k
def Gu (n:Nd):Prop :=
 (n.kind=2∧Fv n.name∧GR n.unit∧n.kids.length=0∧CT n ⟨0,n.name,n.unit,0,0,0,0,⟨0,[]⟩,[],0⟩) ∨
 (n.kind=3∧Fv n.name∧GR n.unit∧1≤n.n∧n.n≤4∧n.kids.length=0∧CT n ⟨0,n.name,n.unit,n.n,0,0,0,⟨0,[]⟩,[],0⟩) ∨
 (n.kind=4∧YU n)
theorem xX {n:Nd} (h:n.kind=2):Gu n↔Fv n.name∧GR n.unit∧n.kids.length=0∧CT n ⟨0,n.name,n.unit,0,0,0,0,⟨0,[]⟩,[],0⟩:=by unfold Gu;simp [h]
theorem vR {n:Nd} (h:n.kind=3):Gu n↔Fv n.name∧GR n.unit∧1≤n.n∧n.n≤4∧n.kids.length=0∧CT n ⟨0,n.name,n.unit,n.n,0,0,0,⟨0,[]⟩,[],0⟩:=by unfold Gu;simp [h]
theorem wU {n:Nd} (h:n.kind=4):Gu n↔YU n:=by unfold Gu;simp [h]
theorem YP {n:Nd} (h:Gu n):n.kind=2∨n.kind=3∨n.kind=4:=by
 unfold Gu at h
 rcases h with h | h | h
 all_goals
   have:=h.1
   simp [this]
theorem eI {n:Nd} (hok:C8 n) {c d:Int} (h0:0≤c) (h1:c≤2000) (h2:0≤d):Out (BU ⟨c⟩ n d) (Gu n∧c+D3 n≤2000∧d+J3 n≤41) (c+D3 n):=by
 obtain ⟨hps,hkl,hks⟩:=FE hok
 have hsz:=Dy n
 have hdp:=Jr n
 have hd:=@M4 n.kids
 rw [BU]
 refine F9 (NX n h0 h1) (fun hp=>?_) fun z hp=>EI fun a=>hp ⟨by omega,by omega⟩
 dsimp only
 rw [cond_true,Ew (a:=d) (b:=1) (by omega)]
 have e0:(((n.kids.length:Nat):Int)=0)=(n.kids.length=0):=propext (by omega)
 simp only [Bs,EJ,D9,Bm,Ty,Tf,Lc,M1 _ _ hps,Option.bind_some,e0]
 have hc1:=hp.1
 have hd1:=hp.2
 have hleaf:∀ {B:Prop},(B↔Gu n)→(B→n.kids.length=0)→Out (some (mb B,c+1)) (Gu n∧c+D3 n≤2000∧d+J3 n≤41) (c+D3 n):=fun hB hk=>(Ll hB).congr ⟨fun a=>⟨a,by have:=Tu (hk (hB.2 a));omega⟩,fun a=>a.1⟩ fun a=>by have:=Tu (hk (hB.2 a.1));omega
 by_cases k2:n.kind=2
 · rw [Ah k2]
   simp only [P8,Su,Ue]
   refine hleaf ?_ ?_
   · rw [xX k2]
   · intro h;exact h.2.2.1
 rw [Af k2]
 by_cases k3:n.kind=3
 · rw [Ah k3]
   simp only [P8,Su,Ue]
   refine hleaf ?_ ?_
   · rw [vR k3]
   · intro h;exact h.2.2.2.2.1
 rw [Af k3]
 by_cases k4:n.kind=4
 rotate_left
 · rw [Af k4];exact EI fun a=>by have:=YP a.1;omega
 rw [Ah k4,wU k4]
 refine Dp (fun hr=>Dp (fun hn=>Dp (fun hb=>?_) fun a=>a.1.2.2.1) fun a=>a.1.2.1) fun a=>a.1.1
 refine RH (fun hl0=>?_) fun a h=>by obtain ⟨h',cs,hk,_⟩:=a.1.2.2.2;rw [hk] at h;simp at h
 have Ls:(∀ k∈n.kids,d+1+J3 k≤41)↔d+J3 n≤41:=by
   constructor
   · intro h
     have:=(hd (m:=(40 - d).toNat)).2 fun k hk=>by have:=h k hk;omega
     omega
   · intro h k hk
     have:=(hd (m:=Wi n.kids)).1 (Nat.le_refl _) k hk
     omega
 unfold YU
 generalize n.kids=ks at *
 match ks,hl0 with
 | x::l,_ =>
 have hsub:Jn (x::l) 1 (((x::l).length:Nat):Int)=some l:=by
   unfold Jn
   rw [if_pos (by simp only [List.length_cons];omega)]
   simp
 rw [hsub]
 simp only [Option.bind_some,List.length_cons] at hkl ⊢
 have e2:∀ {A:Prop},(∃ h cs,x::l=h::cs∧kinds cs∧BQ 8 cs=1∧BQ 7 cs≤1∧H3 h∧∀ k∈cs,Bv k)↔(kinds l∧BQ 8 l=1∧BQ 7 l≤1∧H3 x∧∀ k∈l,Bv k):=by
   intro _
   constructor
   · rintro ⟨h,cs,e,r⟩;cases e;exact r
   · intro r;exact ⟨x,l,rfl,r⟩
 rw [Gd (by omega),List.drop_zero,M6 (by omega) (by omega) (by omega) (by omega) (by omega) (by omega)]
 simp only [Option.bind_some]
 by_cases hK:kinds l
 rotate_left
 · rw [Af hK]
   show Out (some (false,c+1)) _ _
   exact EI fun a=>hK ((e2 (A:=True)).1 a.1.2.2.2).1
 rw [Ah hK]
 show Out (AM ((0:Int)+BQ 8 l=1) (AM (1 < (0:Int)+BQ 7 l) (some (false,c+1)) _) (some (false,c+1))) _ _
 refine Dp (fun h8=>RH (fun h7=>?_) fun a=>?_) fun a=>?_
 rotate_left
 · have:=((e2 (A:=True)).1 a.1.2.2.2).2.2.1;omega
 · have:=((e2 (A:=True)).1 a.1.2.2.2).2.1;omega
 simp only [List.getElem?_cons_zero,Option.bind_some]
 have hdx:=fun h=>Ls.2 h x (by simp)
 have hsl:Gs (x::l)=D3 x+Gs l:=by simp [Gs]
 refine F9 (c6 (hks x (by simp)) (c:=c+1) (d:=d+1) (by omega) hc1) (fun hx=>?_) fun z hx=>EI fun a=>hx ⟨((e2 (A:=True)).1 a.1.2.2.2).2.2.2.1,by omega,hdx a.2.2⟩
 dsimp only
 rw [cond_true,B8,Gd (by omega),List.drop_zero]
 dsimp only
 refine F6 (I6 (g:=BC) (p:=Bv) (d:=d+1) (by omega) hx.2.1 fun k hk c' b0 b1=>WG (hks k (by simp [hk])) b0 b1 (by omega)) ?_ fun _=>by omega
 constructor
 · rintro ⟨a,b⟩
   refine ⟨⟨hr,hn,hb,(e2 (A:=True)).2 ⟨hK,by omega,by omega,hx.1,fun k hk=>(a k hk).1⟩⟩,by omega,Ls.1 fun k hk=>?_⟩
   rcases List.mem_cons.1 hk with rfl | hk
   · exact hx.2.2
   · exact (a k hk).2
 · rintro ⟨a,b,e⟩
   exact ⟨fun k hk=>⟨((e2 (A:=True)).1 a.2.2.2).2.2.2.2 k hk,Ls.2 e k (by simp [hk])⟩,by omega⟩
def OE (n:Nd):Prop:=((n.kind=1∧CT n z0∧∀ k∈n.kids,Gu k)∨(n.kind≠1∧JN n))∧D3 n≤2000∧J3 n≤40
theorem Tt {n:Nd} (hok:C8 n):Dr n=some (mb (OE n)):=by
 obtain ⟨hps,hkl,hks⟩:=FE hok
 have hsz:=Dy n
 have hdp:=Jr n
 have hd:=@M4 n.kids
 rw [Dr,Bs,Bm]
 have fin:∀ {r:Option (Bool×Int)} {P:Prop} {t:Int},Out r P t→(P↔OE n)→(r.bind fun (a,_)=>some a)=some (mb (OE n)):=by
   rintro r P t ⟨z,rfl,_⟩ h
   rw [EW h];rfl
 by_cases k1:n.kind=1
 rotate_left
 · rw [Af k1]
   refine fin (Xc hok 0 1 (by omega) (by omega) (by omega) (by omega)) ?_
   unfold OE
   constructor
   · rintro ⟨a,b,c⟩;exact ⟨.inr ⟨k1,a⟩,by omega,by omega⟩
   · rintro ⟨a | a,b,c⟩
     · exact absurd a.1 k1
     · exact ⟨a.2,by omega,by omega⟩
 rw [Ah k1]
 obtain ⟨z,hz,hz2⟩:=NX n (c:=0) (d:=1) (by omega) (by omega)
 rw [hz]
 simp only [Option.bind_some,M1 _ _ hps,Bm]
 by_cases h1:(0:Int)+1≤2000∧(1:Int)≤40
 rotate_left
 · exact absurd ⟨by omega,by omega⟩ h1
 rw [Ah h1,hz2 h1]
 by_cases hb:CT n z0
 rotate_left
 · rw [Af hb]
   refine Gc ?_
   rintro ⟨a | a,_⟩
   · exact hb a.2.1
   · exact a.1 k1
 rw [Ah hb,Cs,Gd hkl,List.drop_zero]
 dsimp only
 refine fin (I6 (g:=BU) (p:=Gu) (d:=2) (by omega) (by omega) fun k hk c' b0 b1=>eI (hks k hk) b0 b1 (by omega)) ?_
 unfold OE
 constructor
 · rintro ⟨a,b⟩
   refine ⟨.inl ⟨k1,hb,fun k hk=>(a k hk).1⟩,by omega,?_⟩
   have:=(hd (m:=39)).2 fun k hk=>by have:=(a k hk).2;omega
   omega
 · rintro ⟨a | a,b,e⟩
   · refine ⟨fun k hk=>⟨a.2.2 k hk,?_⟩,by omega⟩
     have:=(hd (m:=Wi n.kids)).1 (Nat.le_refl _) k hk
     omega
   · exact absurd k1 a.1
end Mo
end Go.Proofs.YtkfplcngmiljaaaGreatDoor
namespace Go.Proofs.YtkfplcngmiljaaaGreatDoor
open AI Go
namespace Mo
set_option maxRecDepth 100000
set_option maxHeartbeats 4000000
theorem Nf {β:Type} {p:Prop} {x y:β}:some (AM p x y)=AM p (some x) (some y):=by
 by_cases h:p
 · rw [Ah h,Ah h]
 · rw [Af h,Af h]
abbrev eS:ByteArray:=ByteArray.empty
def j2 (s:ByteArray):Prop:=s≠eS∧s≠A4∧s≠Bw∧s≠Cw
theorem S9 (s:ByteArray):DX s=some (mb (j2 s)):=by
 rw [DX]
 simp only [Cy,Bm,nQ,ZB]
 rfl
theorem Xv {us:List ByteArray} {a:ByteArray} (ha:us[0]?=some a) (hl:us.length≤9223372036854775807):Bt us.length us=some (mb (∀ u∈us,u=a)):=by
 rw [Bt,XJ]
 have h0:0 < us.length:=(List.getElem?_eq_some_iff.1 ha).1
 refine cP (fun i _=>∀ j u,j < i→us[j]?=some u→u=a) hl (fun j u hj=>by omega) (fun i x hi hI=>?_) (fun x hI=>?_)
 · have hx:us[i]?=some us[i]:=List.getElem?_eq_getElem hi
   rw [EX,hx]
   have hk:Iv us.length ((0:Nat):Int)=some 0:=by unfold Iv;rw [if_pos (by omega)];rfl
   rw [hk]
   simp only [Option.bind_some,ha,Cy,Bm]
   by_cases h:us[i]=a
   · rw [Ah h]
     refine ⟨_,rfl,fun j u hj hu=>?_⟩
     rcases Nat.lt_or_ge j i with hlt | hge
     · exact hI j u hlt hu
     · obtain rfl:j=i:=by omega
       rw [hx] at hu;cases hu;exact h
   · rw [Af h]
     refine ⟨_,rfl,?_⟩
     exact ⟨_,rfl,(So fun q=>h (q _ (List.getElem_mem hi))).symm⟩
 · refine ⟨_,rfl,(Bc.2 fun u hu=>?_).symm⟩
   obtain ⟨j,hj⟩:=List.getElem?_of_mem hu
   exact hI j u (List.getElem?_eq_some_iff.1 hj).1 hj
noncomputable def Xh (op a b:ByteArray) (E:Prop):ByteArray :=
 AM (op=QT) (AM (a=A4) (AM E A4 eS) eS) (AM (op=Hc) (AM (a=A4) (AM E A4 eS) eS) (AM (op=GX) (AM E A4 eS) (AM (op=GO) (AM E A4 eS)
   (AM (op=Nb) (AM E (AM (a=A4) eS A4) eS) (AM (op=GP) (AM E (AM (a=A4) eS A4) eS) (AM (op=JY) (AM E (AM (a=A4) eS a) eS) (AM (op=M0) (AM E (AM (a=A4) eS a) eS)
     (AM (op=NO) (AM (a=Bw) (AM (b=A4) eS b) (AM (b=Bw) (AM (a=A4) eS a) eS)) (AM (op=H8) (AM (a=A4) eS a) (AM (op=RE) (AM (a=Cw) (AM (j2 b) b eS) eS) eS))))))))))
theorem dM {op a b:ByteArray} {us:List ByteArray} (ha:us[0]?=some a) (hb:us[us.length - 1]?=some b) (hl:us.length≤9223372036854775807):BM op us.length us=some (Xh op a b (∀ u∈us,u=a)):=by
 have h0:0 < us.length:=(List.getElem?_eq_some_iff.1 ha).1
 have hk:Iv us.length ((0:Nat):Int)=some 0:=by unfold Iv;rw [if_pos (by omega)];rfl
 have hk2:Iv us.length (P5 ((us.length:Nat):Int) 1)=some (us.length - 1):=by
   rw [Lh (by omega)]
   unfold Iv
   rw [if_pos (by omega)]
   congr 1
   omega
 rw [BM,hk,hk2]
 simp only [Option.bind_some,ha,hb,Xv ha hl,S9,Cy,Bm]
 unfold Xh
 simp only [Nf]
noncomputable def Jp (op:ByteArray) (us:List ByteArray):ByteArray:=Xh op (us.headD eS) (us.getLastD eS) (∀ u∈us,u=us.headD eS)
theorem YY {op:ByteArray} {us:List ByteArray} (h0:us≠[]) (hl:us.length≤9223372036854775807):BM op us.length us=some (Jp op us):=by
 cases us with
 | nil=>exact absurd rfl h0
 | cons a l =>
   refine dM (a:=a) (b:=(a::l).getLastD eS) rfl ?_ hl
   rw [List.getLastD_cons,← List.getLast?_eq_getElem?,List.getLast?_cons,List.getLastD_eq_getLast?]
def Lo (e at_:Int) (ds:List Dg):List Dg:=if ds.length < 20 then ds++[⟨e,at_⟩] else ds
theorem W1 (e at_:Int) (ds:List Dg):AP e at_ ds=some ((),Lo e at_ ds):=by
 rw [AP,D9,Bm]
 unfold Lo
 by_cases h:ds.length < 20
 · rw [Ah (by omega),if_pos h,Tp (by omega)]
 · rw [Af (by omega),if_neg h]
noncomputable def DF (s:Sc) (n:Nd) (us:List ByteArray):ByteArray :=
 AM (n.kind=11) n.unit (AM (n.kind=12) ((s.facts.get n.name).getD eS) (AM (n.kind=13) ((s.lines.get ((s.AA.get n.n).getD eS)).getD eS) (AM (n.kind=14) Bw
   (AM (n.kind=15) (Jp Hc us) (AM (n.kind=16) (Jp n.name us) (AM (n.kind=17) (Jp JY us) (AM (n.kind=18) (AM (j2 (us.headD eS)) (us.headD eS) eS) eS)))))))
noncomputable def Pj (n:Nd):Int:=AM (n.kind=12) 91 (AM (n.kind=13) 91 11)
noncomputable def X4 (s:Sc) (n:Nd) (r:List ByteArray×List Dg):ByteArray×List Dg :=
 AM (∀ u∈r.1,u≠eS) (AM (DF s n r.1=eS) (DF s n r.1,Lo (Pj n) n.att r.2) (DF s n r.1,r.2)) (eS,r.2)
mutual
noncomputable def Cr (s:Sc):Nd→List Dg→ByteArray×List Dg
 | ⟨kind,name,unit,n,fr,to,known,tab,kids,att⟩,ds=>X4 s ⟨kind,name,unit,n,fr,to,known,tab,kids,att⟩ (CM s kids ds)
noncomputable def CM (s:Sc):List Nd→List Dg→List ByteArray×List Dg
 | [],ds=>([],ds)
 | k::ks,ds=>((Cr s k ds).1::(CM s ks (Cr s k ds).2).1,(CM s ks (Cr s k ds).2).2)
end
theorem Pt (s:Sc) (n:Nd) (ds:List Dg):Cr s n ds=X4 s n (CM s n.kids ds):=by cases n;rw [Cr]
theorem Mj (s:Sc):∀ (l:List Nd) (ds:List Dg),(CM s l ds).1.length=l.length
 | [],_=>by rw [CM];rfl
 | k::l,ds=>by rw [CM];simp [Mj s l]
theorem OZ {s:Sc} {g:Sc→Nd→List Dg→Option (ByteArray×List Dg)}:∀ {l:List Nd} {done:List ByteArray} {w:Prop} {ds:List Dg},(∀ k∈l,∀ ds,g s k ds=some (Cr s k ds)) →
   Bb (fun i y x=>BK g s i y x.1 x.2.1 x.2.2) (fun x=>(x.1,x.2.1,x.2.2)) l done.length (mb w,done++List.replicate l.length eS,ds)=some (.inl (mb (w∧∀ u∈(CM s l ds).1,u≠eS),done++(CM s l ds).1,(CM s l ds).2))
 | [],done,w,ds,_=>by
   rw [Bb,CM]
   simp
 | k::l,done,w,ds,h=>by
   rw [Bb,BK,h k (by simp)]
   have hlt:done.length < (done++List.replicate (k::l).length eS).length:=by simp
   have hx:(done++List.replicate (k::l).length eS)[done.length]?=some eS:=by
     rw [List.getElem?_append_right (Nat.le_refl _)];simp
   have hset:(done++List.replicate (k::l).length eS).set done.length (Cr s k ds).1=(done++[(Cr s k ds).1])++List.replicate l.length eS:=by
     rw [List.set_append_right _ _ (Nat.le_refl _)]
     simp [List.replicate_succ]
   have hg:((done++[(Cr s k ds).1])++List.replicate l.length eS)[done.length]?=some (Cr s k ds).1:=by
     rw [List.append_assoc,List.getElem?_append_right (Nat.le_refl _)];simp
   have ih:=fun w'=>OZ (s:=s) (g:=g) (l:=l) (done:=done++[(Cr s k ds).1]) (w:=w') (ds:=(Cr s k ds).2) fun k' hk'=>h k' (by simp [hk'])
   simp only [List.length_append,List.length_cons,List.length_nil,Nat.zero_add] at ih
   simp only [Option.bind_some,hx,hset,hg,Cy,Bm]
   rw [CM]
   have fin:∀ w',(w'↔w∧(Cr s k ds).1≠eS)→(G5 (Bb (fun i y x=>BK g s i y x.1 x.2.1 x.2.2) (fun x=>(x.1,x.2.1,x.2.2)) l (done.length+1)) (.nx (mb w',done++[(Cr s k ds).1]++List.replicate l.length eS,(Cr s k ds).2)))=some (.inl (mb (w∧∀ u∈(Cr s k ds).1::(CM s l (Cr s k ds).2).1,u≠eS),done++((Cr s k ds).1::(CM s l (Cr s k ds).2).1),(CM s l (Cr s k ds).2).2)):=by
     intro w' hw
     show Bb _ _ l (done.length+1) _=_
     rw [ih w']
     congr 2
     refine Prod.ext (EW ?_) (Prod.ext (by simp) rfl)
     simp only [List.mem_cons,forall_eq_or_imp,hw]
     exact and_assoc
   by_cases hw:w
   · rw [Ah hw]
     by_cases hu:(Cr s k ds).1=eS
     · rw [Ah hu,uO]
       exact fin False ⟨fun q=>q.elim,fun q=>q.2 hu⟩
     · rw [Af hu,kW]
       exact fin True ⟨fun _=>⟨hw,hu⟩,fun _=>trivial⟩
   · rw [Af hw,uO]
     exact fin False ⟨fun q=>q.elim,fun q=>hw q.1⟩
section
variable {s:Sc} {n:Nd} {us:List ByteArray}
theorem uW (h:n.kind=11):DF s n us=n.unit:=by unfold DF;rw [Ah h]
theorem vF (h:n.kind=12):DF s n us=(s.facts.get n.name).getD eS:=by unfold DF;rw [Af (by omega),Ah h]
theorem uU (h:n.kind=13):DF s n us=(s.lines.get ((s.AA.get n.n).getD eS)).getD eS:=by unfold DF;rw [Af (by omega),Af (by omega),Ah h]
theorem wQ (h:n.kind=14):DF s n us=Bw:=by unfold DF;rw [Af (by omega),Af (by omega),Af (by omega),Ah h]
theorem xR (h:n.kind=15):DF s n us=Jp Hc us:=by unfold DF;rw [Af (by omega),Af (by omega),Af (by omega),Af (by omega),Ah h]
theorem u16 (h:n.kind=16):DF s n us=Jp n.name us:=by unfold DF;rw [Af (by omega),Af (by omega),Af (by omega),Af (by omega),Af (by omega),Ah h]
theorem wY (h:n.kind=17):DF s n us=Jp JY us:=by unfold DF;rw [Af (by omega),Af (by omega),Af (by omega),Af (by omega),Af (by omega),Af (by omega),Ah h]
theorem wX (h:n.kind=18):DF s n us=AM (j2 (us.headD eS)) (us.headD eS) eS:=by unfold DF;rw [Af (by omega),Af (by omega),Af (by omega),Af (by omega),Af (by omega),Af (by omega),Af (by omega),Ah h]
theorem lF (h:n.kind=12∨n.kind=13):Pj n=91:=by
 unfold Pj
 by_cases e:n.kind=12
 · rw [Ah e]
 · rw [Af e,Ah (h.resolve_left e)]
theorem U4 (h1:n.kind≠12) (h2:n.kind≠13):Pj n=11:=by unfold Pj;rw [Af h1,Af h2]
end
theorem n3 {n:Nd} (h:Lr n) (hk:n.kind=15∨n.kind=16∨n.kind=17∨n.kind=18):0 < n.kids.length:=by
 rcases hk with e | e | e | e
 · have:=((dS e).1 h).1;omega
 · have:=((eV e).1 h).2.1;omega
 · have:=((cZ e).1 h).2.2;omega
 · have:=((dQ e).1 h).2.2;omega
theorem ZS:∀ (q:Nat) (s:Sc) (n:Nd) (ds:List Dg),JN n→D3 n≤q→D3 n≤2000→A6 q s n ds=some (Cr s n ds):=by
 intro q
 induction q with
 | zero=>intro s n ds _ h;have:=Dy n;omega
 | succ q ih =>
 intro s n ds he hq h2
 obtain ⟨hQ,hks⟩:=(MJ n).1 he
 have hsz:=Dy n
 have hkl:=MK n.kids
 rw [A6,C7,Pt]
 have hl:=Mj s n.kids ds
 have hf:=OZ (s:=s) (g:=A6 q) (l:=n.kids) (done:=[]) (w:=True) (ds:=ds) fun k hk ds'=>ih s k ds' (hks k hk) (by have:=Hl hk;omega) (by have:=Hl hk;omega)
 simp only [List.nil_append,List.length_nil,true_and,← kW] at hf
 unfold Ys
 rw [if_pos (by omega),Gd (by omega),List.drop_zero,hf]
 show cond (mb (∀ u∈(CM s n.kids ds).1,u≠eS)) _ _=_
 unfold X4
 generalize hr:CM s n.kids ds=r at *
 obtain ⟨us,ds2⟩:=r
 dsimp only at hl ⊢
 rw [← hl]
 simp only [Bm,Bs,Cy,W1,S9]
 rw [Nf]
 congr 1
 rw [Nf]
 have hne:=fun hk=>n3 hQ hk
 have hul:us.length≤9223372036854775807:=by omega
 have hop:∀ op,0 < n.kids.length→BM op us.length us=some (Jp op us):=fun op h=>YY (fun e=>by rw [e] at hl;simp at hl;omega) hul
 rcases PK hQ with k | k | k | k | k | k | k | k
 · rw [Ah k,uW k,U4 (by omega) (by omega)];rfl
 · rw [Af (by omega),Ah k,vF k,lF (.inl k)];rfl
 · rw [Af (by omega),Af (by omega),Ah k,uU k,lF (.inr k)];rfl
 · rw [Af (by omega),Af (by omega),Af (by omega),Ah k,wQ k,U4 (by omega) (by omega)];rfl
 · rw [Af (by omega),Af (by omega),Af (by omega),Af (by omega),Ah k,xR k,U4 (by omega) (by omega),hop Hc (hne (by omega))];rfl
 · rw [Af (by omega),Af (by omega),Af (by omega),Af (by omega),Af (by omega),Ah k,u16 k,U4 (by omega) (by omega),hop n.name (hne (by omega))];rfl
 · rw [Af (by omega),Af (by omega),Af (by omega),Af (by omega),Af (by omega),Af (by omega),Ah k,wY k,U4 (by omega) (by omega),hop JY (hne (by omega))];rfl
 · rw [Af (by omega),Af (by omega),Af (by omega),Af (by omega),Af (by omega),Af (by omega),Af (by omega),Ah k,wX k,U4 (by omega) (by omega)]
   have h0:=hne (by omega)
   cases us with
   | nil=>simp at hl;omega
   | cons a l =>
   have hk0:Iv (a::l).length ((0:Nat):Int)=some 0:=by unfold Iv;rw [if_pos (by simp only [List.length_cons];omega)];rfl
   rw [hk0]
   simp only [Option.bind_some,List.getElem?_cons_zero,List.headD_cons,Bm]
   by_cases hc:j2 a
   · rw [Ah hc,Ah hc]
   · rw [Af hc,Af hc,Ah trivial,Ah rfl]
theorem Y0 {s:Sc} {n:Nd} {ds:List Dg} (he:JN n) (h:D3 n≤2000):D2 s n ds=some (Cr s n ds) :=
 Lt (D3 n) fun q hq=>ZS q s n ds he hq h
end Mo
end Go.Proofs.YtkfplcngmiljaaaGreatDoor
namespace Go.Proofs.YtkfplcngmiljaaaGreatDoor
open AI Go
namespace Mo
set_option maxRecDepth 100000
set_option maxHeartbeats 4000000
noncomputable def fU (k:Int):List Nd→ByteArray→Option ByteArray
 | [],_=>none
 | a::l,x=>AM (a.kind=k∧a.name=x) (some a.unit) (fU k l x)
noncomputable def fA:List Nd→Int→Option ByteArray
 | [],_=>none
 | a::l,z=>AM (a.kind=4∧a.n=z) (some a.name) (fA l z)
abbrev ZG:Type:=Mm ByteArray ByteArray×Mm ByteArray ByteArray×Mm Int ByteArray
noncomputable def Ix (a:Nd) (x:ZG):ZG :=
 AM (a.kind=2) (AM ((x.1.get a.name).isSome=true) x (x.1.set a.name a.unit,x.2.1,x.2.2))
   (AM (a.kind=3) (AM ((x.2.1.get a.name).isSome=true) x (x.1,x.2.1.set a.name a.unit,x.2.2))
     (AM (a.kind=4) (AM ((x.2.2.get a.n).isSome=true) x (x.1,x.2.1,x.2.2.set a.n a.name)) x))
noncomputable def P7:List Nd→ZG→ZG
 | [],x=>x
 | a::l,x=>P7 l (Ix a x)
noncomputable def cG (n:Nd):Sc:=⟨(P7 n.kids (Mm.nil,Mm.nil,Mm.nil)).1,(P7 n.kids (Mm.nil,Mm.nil,Mm.nil)).2.1,(P7 n.kids (Mm.nil,Mm.nil,Mm.nil)).2.2⟩
theorem RA:∀ (l:List Nd) (i:Nat) (x:ZG),Bb (fun i y x=>CO i y x.1 x.2.1 x.2.2) (fun x=>(x.1,x.2.1,x.2.2)) l i x=(some (.inl (P7 l x)):Option (ZG⊕Sc))
 | [],_,_=>rfl
 | a::l,i,x=>by
   rw [Bb,CO,P7]
   have e:∀ x',(some (Lp.nx x'):Option (Lp ZG ZG Sc)).bind (G5 (Bb (fun i y x=>CO i y x.1 x.2.1 x.2.2) (fun x=>(x.1,x.2.1,x.2.2)) l (i+1)))=some (.inl (P7 l x')):=fun x'=>RA l (i+1) x'
   simp only [Bs,Bm,yB,Kr]
   unfold Ix
   by_cases k2:a.kind=2
   · rw [Ah k2,Ah k2]
     by_cases h:(x.1.get a.name).isSome=true
     · rw [Ah h,Ah h];exact e _
     · rw [Af h,Af h];exact e _
   rw [Af k2,Af k2]
   by_cases k3:a.kind=3
   · rw [Ah k3,Ah k3]
     by_cases h:(x.2.1.get a.name).isSome=true
     · rw [Ah h,Ah h];exact e _
     · rw [Af h,Af h];exact e _
   rw [Af k3,Af k3]
   by_cases k4:a.kind=4
   · rw [Ah k4,Ah k4]
     by_cases h:(x.2.2.get a.n).isSome=true
     · rw [Ah h,Ah h];exact e _
     · rw [Af h,Af h];exact e _
   rw [Af k4,Af k4]
   exact e _
theorem aN {n:Nd} (hok:C8 n):Dt n=some (cG n):=by
 obtain ⟨hps,hkl,hks⟩:=FE hok
 rw [Dt,Gd hkl,List.drop_zero,RA]
 rfl
theorem MT:∀ (l:List Nd) (x:ZG),(∀ y,(P7 l x).1.get y=(x.1.get y).or (fU 2 l y))∧(∀ y,(P7 l x).2.1.get y=(x.2.1.get y).or (fU 3 l y))∧∀ z,(P7 l x).2.2.get z=(x.2.2.get z).or (fA l z)
 | [],x=>⟨fun y=>by simp [P7,fU],fun y=>by simp [P7,fU],fun z=>by simp [P7,fA]⟩
 | a::l,x=>by
   obtain ⟨h1,h2,h3⟩:=MT l (Ix a x)
   have s1:∀ y,(Ix a x).1.get y=(x.1.get y).or (AM (a.kind=2∧a.name=y) (some a.unit) none):=by
     intro y
     unfold Ix
     by_cases k2:a.kind=2
     · rw [Ah k2]
       by_cases h:(x.1.get a.name).isSome=true
       · rw [Ah h]
         by_cases e:a.name=y
         · subst e
           obtain ⟨v,hv⟩:=Option.isSome_iff_exists.1 h
           rw [hv];rfl
         · rw [Af (show ¬ (a.kind=2∧a.name=y) from fun q=>e q.2)];simp
       · rw [Af h]
         show (x.1.set a.name a.unit).get y=_
         rw [Mm.IJ]
         by_cases e:y=a.name
         · subst e
           rw [if_pos rfl,Ah ⟨k2,rfl⟩]
           have:x.1.get a.name=none:=by simpa using h
           rw [this];rfl
         · rw [if_neg e,Af (show ¬ (a.kind=2∧a.name=y) from fun q=>e q.2.symm)];simp
     · rw [Af k2,Af (show ¬ (a.kind=2∧a.name=y) from fun q=>k2 q.1)]
       by_cases k3:a.kind=3
       · rw [Ah k3]
         by_cases h:(x.2.1.get a.name).isSome=true
         · rw [Ah h];simp
         · rw [Af h];simp
       · rw [Af k3]
         by_cases k4:a.kind=4
         · rw [Ah k4]
           by_cases h:(x.2.2.get a.n).isSome=true
           · rw [Ah h];simp
           · rw [Af h];simp
         · rw [Af k4];simp
   have s2:∀ y,(Ix a x).2.1.get y=(x.2.1.get y).or (AM (a.kind=3∧a.name=y) (some a.unit) none):=by
     intro y
     unfold Ix
     by_cases k2:a.kind=2
     · rw [Ah k2,Af (show ¬ (a.kind=3∧a.name=y) from fun q=>by omega)]
       by_cases h:(x.1.get a.name).isSome=true
       · rw [Ah h];simp
       · rw [Af h];simp
     · rw [Af k2]
       by_cases k3:a.kind=3
       · rw [Ah k3]
         by_cases h:(x.2.1.get a.name).isSome=true
         · rw [Ah h]
           by_cases e:a.name=y
           · subst e
             obtain ⟨v,hv⟩:=Option.isSome_iff_exists.1 h
             rw [hv];rfl
           · rw [Af (show ¬ (a.kind=3∧a.name=y) from fun q=>e q.2)];simp
         · rw [Af h]
           show (x.2.1.set a.name a.unit).get y=_
           rw [Mm.IJ]
           by_cases e:y=a.name
           · subst e
             rw [if_pos rfl,Ah ⟨k3,rfl⟩]
             have:x.2.1.get a.name=none:=by simpa using h
             rw [this];rfl
           · rw [if_neg e,Af (show ¬ (a.kind=3∧a.name=y) from fun q=>e q.2.symm)];simp
       · rw [Af k3,Af (show ¬ (a.kind=3∧a.name=y) from fun q=>k3 q.1)]
         by_cases k4:a.kind=4
         · rw [Ah k4]
           by_cases h:(x.2.2.get a.n).isSome=true
           · rw [Ah h];simp
           · rw [Af h];simp
         · rw [Af k4];simp
   have s3:∀ z,(Ix a x).2.2.get z=(x.2.2.get z).or (AM (a.kind=4∧a.n=z) (some a.name) none):=by
     intro z
     unfold Ix
     by_cases k2:a.kind=2
     · rw [Ah k2,Af (show ¬ (a.kind=4∧a.n=z) from fun q=>by omega)]
       by_cases h:(x.1.get a.name).isSome=true
       · rw [Ah h];simp
       · rw [Af h];simp
     · rw [Af k2]
       by_cases k3:a.kind=3
       · rw [Ah k3,Af (show ¬ (a.kind=4∧a.n=z) from fun q=>by omega)]
         by_cases h:(x.2.1.get a.name).isSome=true
         · rw [Ah h];simp
         · rw [Af h];simp
       · rw [Af k3]
         by_cases k4:a.kind=4
         · rw [Ah k4]
           by_cases h:(x.2.2.get a.n).isSome=true
           · rw [Ah h]
             by_cases e:a.n=z
             · subst e
               obtain ⟨v,hv⟩:=Option.isSome_iff_exists.1 h
               rw [hv];rfl
             · rw [Af (show ¬ (a.kind=4∧a.n=z) from fun q=>e q.2)];simp
           · rw [Af h]
             show (x.2.2.set a.n a.name).get z=_
             rw [Mm.IJ]
             by_cases e:z=a.n
             · subst e
               rw [if_pos rfl,Ah ⟨k4,rfl⟩]
               have:x.2.2.get a.n=none:=by simpa using h
               rw [this];rfl
             · rw [if_neg e,Af (show ¬ (a.kind=4∧a.n=z) from fun q=>e q.2.symm)];simp
         · rw [Af k4,Af (show ¬ (a.kind=4∧a.n=z) from fun q=>k4 q.1)];simp
   have or_if:∀ {p:Prop} {u:ByteArray} {o f:Option ByteArray},(o.or (AM p (some u) none)).or f=o.or (AM p (some u) f):=by
     intro p u o f
     by_cases h:p
     · rw [Ah h,Ah h];cases o<;>rfl
     · rw [Af h,Af h];cases o<;>rfl
   refine ⟨fun y=>?_,fun y=>?_,fun z=>?_⟩
   · rw [P7,h1,s1,fU,or_if]
   · rw [P7,h2,s2,fU,or_if]
   · rw [P7,h3,s3,fA,or_if]
theorem VX (n:Nd) (x:ByteArray):(cG n).facts.get x=fU 2 n.kids x:=by
 have:=(MT n.kids (Mm.nil,Mm.nil,Mm.nil)).1 x
 exact this.trans (by rw [Mm.get_nil];rfl)
theorem VK (n:Nd) (x:ByteArray):(cG n).lines.get x=fU 3 n.kids x:=by
 have:=(MT n.kids (Mm.nil,Mm.nil,Mm.nil)).2.1 x
 exact this.trans (by rw [Mm.get_nil];rfl)
theorem X0 (n:Nd) (z:Int):(cG n).AA.get z=fA n.kids z:=by
 have:=(MT n.kids (Mm.nil,Mm.nil,Mm.nil)).2.2 z
 exact this.trans (by rw [Mm.get_nil];rfl)
noncomputable def Gm (src e:Nd):ByteArray×List Dg:=AM ((src.kind=1∧e.kind≠1)∧OE src∧OE e) (Cr (cG src) e []) (eS,[⟨1,e.att⟩])
theorem eZ {e:Nd} (h:OE e) (hk:e.kind≠1):JN e∧D3 e≤2000∧J3 e≤40:=by
 obtain ⟨a | a,b⟩:=h
 · exact absurd a.1 hk
 · exact ⟨a.2,b⟩
theorem MW {src e:Nd} (hs:C8 src) (he:C8 e):CW src e=some (Gm src e):=by
 rw [CW,Tt hs,Tt he,aN hs]
 simp only [Option.bind_some,Bs,Bm]
 unfold Gm
 by_cases k1:src.kind=1
 rotate_left
 · rw [Af k1,Af fun q=>k1 q.1.1]
 rw [Ah k1]
 by_cases k2:e.kind=1
 · rw [Ah k2,Af fun q=>q.1.2 k2]
 rw [Af k2]
 by_cases v1:OE src
 rotate_left
 · rw [Af v1,Af fun q=>v1 q.2.1]
 rw [Ah v1]
 by_cases v2:OE e
 rotate_left
 · rw [Af v2,Af fun q=>v2 q.2.2]
 rw [Ah v2,Ah ⟨⟨k1,k2⟩,v1,v2⟩]
 obtain ⟨a,b,_⟩:=eZ v2 k2
 rw [show D5=some () from rfl]
 simp only [Option.bind_some]
 rw [Y0 a b]
 rfl
theorem QF:∀ q:Nat,∀ n l,Le (Be q n l) (Be (q+1) n l)
 | 0=>fun _ _ _ h=>nomatch h
 | q+1=>fun n l=>by
   have ih:=QF q
   rw [Be,Be,Di,Di]
   refine ML (Le.refl _) (FR (Vp (Qe (fun i y x=>?_) _ _ _)) fun _=>Le.refl _)
   rw [CI,CI]
   exact ML (FR (ih _ _) fun _=>Le.refl _) (Le.refl _)
theorem Z7:∀ (q:Nat) (n:Nd) (l:Int),C8 n→D3 n≤q→∃ y,Be q n l=some y:=by
 intro q
 induction q with
 | zero=>intro n _ _ h;have:=Dy n;omega
 | succ q ih =>
   intro n l hok hq
   obtain ⟨hps,hkl,hks⟩:=FE hok
   have hsz:=Dy n
   rw [Be,Di]
   cases J0 l 0 with
   | true=>exact ⟨_,rfl⟩
   | false =>
     rw [cond_false,Gd hkl,List.drop_zero]
     have key:∀ (m:List Nd),(∀ k∈m,k∈n.kids)→∀ (i:Nat) (x:Int),∃ y,(Bb (ρ:=Int) (fun i y x=>CI (Be q) l i y x) (fun x=>x) m i x)=some y:=by
       intro m
       induction m with
       | nil=>intro _ i x;exact ⟨_,rfl⟩
       | cons a m ihm =>
         intro hm i x
         rw [Bb,CI]
         cases ES x l with
         | false=>exact ⟨_,rfl⟩
         | true =>
           obtain ⟨y,hy⟩:=ih a (P5 l x) (hks a (hm a (by simp))) (by have:=Hl (hm a (by simp));omega)
           rw [cond_true,hy]
           exact ihm (fun k hk=>hm k (by simp [hk])) _ _
     obtain ⟨y,hy⟩:=key n.kids (fun _ h=>h) 0 1
     rw [hy]
     cases y<;>exact ⟨_,rfl⟩
theorem W2 {n:Nd} (hok:C8 n) (l:Int):∃ b,CX n l=some b:=by
 obtain ⟨y,hy⟩:=Z7 (D3 n) n (Ek l 1) hok (Nat.le_refl _)
 have:FY n (Ek l 1)=some y:=RX (fun q=>QF q _ _) hy
 rw [CX,this]
 simp only [Option.bind_some]
 cases J0 y l<;>exact ⟨_,rfl⟩
theorem nG {a b:Nd} (ha:C8 a) (hb:C8 b):∃ y,F1 a b=some y:=by
 obtain ⟨x,hx⟩:=W2 ha 400
 obtain ⟨y,hy⟩:=W2 hb 400
 rw [F1,hx,hy]
 cases x<;>exact ⟨_,rfl⟩
end Mo
end Go.Proofs.YtkfplcngmiljaaaGreatDoor
namespace Go.Proofs.YtkfplcngmiljaaaGreatDoor
open AI Go
namespace Mo
set_option maxRecDepth 100000
set_option maxHeartbeats 4000000
def cap (ds r:List Dg):List Dg:=(ds++r).take 20
theorem Tb (ds a b:List Dg):cap (cap ds a) b=cap ds (a++b):=by
 unfold cap
 rw [← List.append_assoc]
 generalize ds++a=l
 rw [List.take_append,List.take_append,List.take_take,Nat.min_self,List.length_take]
 by_cases h:l.length≤20
 · rw [Nat.min_eq_right h]
 · rw [Nat.min_eq_left (by omega),show 20 - 20=0 by omega,show 20 - l.length=0 by omega]
theorem Zt {ds:List Dg} (h:ds.length≤20):cap ds []=ds:=by
 unfold cap
 rw [List.append_nil,List.take_of_length_le h]
theorem S7 (ds r:List Dg):(cap ds r).length≤20:=by unfold cap;rw [List.length_take];omega
theorem R9 {ds:List Dg} (h:ds.length≤20) (e at_:Int):Lo e at_ ds=cap ds [⟨e,at_⟩]:=by
 unfold Lo cap
 by_cases h2:ds.length < 20
 · rw [if_pos h2,List.take_of_length_le (by simp;omega)]
 · rw [if_neg h2,List.take_append,List.take_of_length_le h,show 20 - ds.length=0 by omega]
   simp
noncomputable def L9 (F:ByteArray→ByteArray) (A:Int→ByteArray) (n:Nd) (us:List ByteArray):ByteArray :=
 AM (n.kind=11) n.unit (AM (n.kind=12) (F n.name) (AM (n.kind=13) (A n.n) (AM (n.kind=14) Bw
   (AM (n.kind=15) (Jp Hc us) (AM (n.kind=16) (Jp n.name us) (AM (n.kind=17) (Jp JY us) (AM (n.kind=18) (AM (j2 (us.headD eS)) (us.headD eS) eS) eS)))))))
noncomputable def WX (F:ByteArray→ByteArray) (A:Int→ByteArray) (n:Nd) (r:List ByteArray×List Dg):ByteArray×List Dg :=
 AM (∀ u∈r.1,u≠eS) (AM (L9 F A n r.1=eS) (L9 F A n r.1,r.2++[⟨Pj n,n.att⟩]) (L9 F A n r.1,r.2)) (eS,r.2)
mutual
noncomputable def Jj (F:ByteArray→ByteArray) (A:Int→ByteArray):Nd→ByteArray×List Dg
 | ⟨kind,name,unit,n,fr,to,known,tab,kids,att⟩=>WX F A ⟨kind,name,unit,n,fr,to,known,tab,kids,att⟩ (I3 F A kids)
noncomputable def I3 (F:ByteArray→ByteArray) (A:Int→ByteArray):List Nd→List ByteArray×List Dg
 | []=>([],[])
 | k::ks=>((Jj F A k).1::(I3 F A ks).1,(Jj F A k).2++(I3 F A ks).2)
end
theorem PI (F:ByteArray→ByteArray) (A:Int→ByteArray) (n:Nd):Jj F A n=WX F A n (I3 F A n.kids):=by cases n;rw [Jj]
theorem Ln (F:ByteArray→ByteArray) (A:Int→ByteArray):∀ l:List Nd,I3 F A l=(l.map fun k=>(Jj F A k).1,l.flatMap fun k=>(Jj F A k).2)
 | []=>by rw [I3];rfl
 | k::l=>by rw [I3,Ln F A l];rfl
noncomputable def FS (s:Sc) (x:ByteArray):ByteArray:=(s.facts.get x).getD eS
noncomputable def RN (s:Sc) (z:Int):ByteArray:=(s.lines.get ((s.AA.get z).getD eS)).getD eS
theorem Jl {s:Sc}:∀ {l:List Nd},(∀ k∈l,∀ ds:List Dg,ds.length≤20→Cr s k ds=((Jj (FS s) (RN s) k).1,cap ds (Jj (FS s) (RN s) k).2))→∀ ds:List Dg,ds.length≤20→CM s l ds=((I3 (FS s) (RN s) l).1,cap ds (I3 (FS s) (RN s) l).2)
 | [],_,ds,h=>by rw [CM,I3,Zt h]
 | a::l,hk,ds,h=>by
   rw [CM,I3,hk a (by simp) ds h]
   dsimp only
   rw [Jl (fun k h'=>hk k (by simp [h'])) _ (S7 _ _),Tb]
theorem Ru (s:Sc):∀ (m:Nat) (n:Nd),D3 n≤m→∀ ds:List Dg,ds.length≤20→Cr s n ds=((Jj (FS s) (RN s) n).1,cap ds (Jj (FS s) (RN s) n).2):=by
 intro m
 induction m with
 | zero=>intro n h;have:=Dy n;omega
 | succ m ih =>
   intro n hn ds hd
   have hsz:=Dy n
   rw [Pt,PI,Jl (fun k hk=>ih k (by have:=Hl hk;omega)) ds hd]
   unfold X4 WX
   show AM _ (AM (L9 (FS s) (RN s) n _=eS) (L9 (FS s) (RN s) n _,_) (L9 (FS s) (RN s) n _,_)) _=_
   by_cases hu:∀ u∈(I3 (FS s) (RN s) n.kids).1,u≠eS
   · rw [Ah hu,Ah hu]
     by_cases hU:L9 (FS s) (RN s) n (I3 (FS s) (RN s) n.kids).1=eS
     · rw [Ah hU,Ah hU]
       dsimp only
       rw [R9 (S7 _ _),Tb]
     · rw [Af hU,Af hU]
   · rw [Af hu,Af hu]
theorem Um (s:Sc) (n:Nd) {ds:List Dg} (h:ds.length≤20):Cr s n ds=((Jj (FS s) (RN s) n).1,cap ds (Jj (FS s) (RN s) n).2):=Ru s (D3 n) n (Nat.le_refl _) ds h
noncomputable def fact (src:Nd) (x:ByteArray):ByteArray:=(fU 2 src.kids x).getD eS
noncomputable def line (src:Nd) (x:ByteArray):ByteArray:=(fU 3 src.kids x).getD eS
noncomputable def pC (src:Nd) (z:Int):ByteArray:=line src ((fA src.kids z).getD eS)
theorem eY (src:Nd):FS (cG src)=fact src:=funext fun x=>by unfold FS fact;rw [VX]
theorem dZ (src:Nd):RN (cG src)=pC src:=funext fun z=>by unfold RN pC line;rw [VK,X0]
noncomputable def VE (src n:Nd):ByteArray×List Dg:=Jj (fact src) (pC src) n
theorem Uj (src n:Nd) {ds:List Dg} (h:ds.length≤20):Cr (cG src) n ds=((VE src n).1,cap ds (VE src n).2):=by
 rw [Um _ _ h,eY,dZ];rfl
theorem OK (src e:Nd):Gm src e=AM ((src.kind=1∧e.kind≠1)∧OE src∧OE e) ((VE src e).1,cap [] (VE src e).2) (eS,[⟨1,e.att⟩]):=by
 unfold Gm
 rw [Uj src e (by simp)]
end Mo
end Go.Proofs.YtkfplcngmiljaaaGreatDoor

namespace Go.Proofs.YtkfplcngmiljaaaGreatDoor
open AI Go
namespace Mo
set_option maxRecDepth 100000
set_option maxHeartbeats 4000000
structure wL (b:List Nd) (w5:Mm ByteArray Bool) (w2:Mm Int Int) (w4:Mm ByteArray Bool):Prop where
 lines:∀ x,((w5.get x).getD false=true)↔∃ a∈b,a.kind=3∧a.name=x
 facts:∀ x,((w4.get x).getD false=true)↔∃ a∈b,a.kind=2∧a.name=x
 TI:∀ k,k=2∨k=3→(w2.get k).getD 0=((BQ k b:Nat):Int)
end Mo
end Go.Proofs.YtkfplcngmiljaaaGreatDoor

namespace Go.Proofs.YtkfplcngmiljaaaGreatDoor
open AI Go
namespace Mo
set_option maxRecDepth 100000
set_option maxHeartbeats 4000000
theorem Ti (c:Int):DY c=some (mb (97≤c∧c≤122)):=by
 rw [DY];simp only [EJ,Bm,Fi,DB]
theorem Yz (c:Int):ER c=some (mb (48≤c∧c≤57)):=by
 rw [ER];simp only [EJ,Bm,Fi,DB]
theorem Y3 (c:Int):Dk c=some (mb (65≤c∧c≤90)):=by
 rw [Dk];simp only [EJ,Bm,Fi,DB]
theorem GN (n a b:Int):AG n a b=some (mb (a≤n∧n≤b)):=by
 rw [AG];simp only [EJ,Bm,Fi,DB]
theorem iJ (l:List ByteArray) (s:ByteArray) (hl:l.length≤9223372036854775807):Em l s=some (mb (s∈l)):=by
 unfold Em
 rw [G9 (v:=true) (P:=fun _ y=>¬ y=s) hl (fun i y _=>by
   unfold Hq
   simp only [Cy,Bm,UH])]
 simp only [nQ]
 refine IV ?_
 constructor
 · intro h
   exact Classical.byContradiction fun hn=>h fun i y hy e=>hn (e▸List.mem_of_getElem? hy)
 · intro h hn
   obtain ⟨i,hi⟩:=List.getElem?_of_mem h
   exact hn i s hi rfl
theorem bK (s:ByteArray):Eg s=some (mb (Sa s)):=by
 rw [Eg,Bs,Bm]
 unfold Sa
 by_cases h:s.data.toList.length=3
 · rw [Ah (by omega)]
   generalize s.data.toList=l at h
   match l,h with
   | [a,b,c],_ =>
     simp only [List.getElem?_cons_zero,List.getElem?_cons_succ,Option.bind_some,Y3,Bm,DB]
     refine IV ?_
     simp only [List.length_cons,List.length_nil,List.mem_cons,List.not_mem_nil,or_false,true_and,forall_eq_or_imp,forall_eq]
     omega
 · rw [Af (by omega)]
   exact Gc fun q=>h q.1
theorem VD (s:ByteArray):Et s=some (mb (Fv s)):=by
 rw [Et]
 simp only [D9,Bm]
 unfold Fv
 by_cases h0:((s.data.toList.length:Nat):Int) < 1
 · rw [Ah h0];exact Gc fun h=>by omega
 rw [Af h0]
 by_cases h1:16 < ((s.data.toList.length:Nat):Int)
 · rw [Ah h1];exact Gc fun h=>by omega
 rw [Af h1]
 obtain ⟨b,hb⟩:∃ b,s.data.toList[0]?=some b:=⟨_,List.getElem?_eq_getElem (by omega)⟩
 rw [hb,show GB=some TU from rfl]
 simp only [Option.bind_some,Ti,Bm]
 rw [iJ _ _ (by decide),G9 (v:=false) (P:=fun _ y=>Rj y) (by omega) (fun i y _=>by
   simp only [FT,Ti,Yz,Option.bind_some,Bm,Bs,QS,kV]
   congr 2
   unfold Rj
   apply propext
   omega)]
 simp only [Option.bind_some,Bm,Fi,ZB,DB,Kk]
 refine IV ?_
 constructor
 · rintro ⟨h3,h5,h6⟩
   exact ⟨by omega,⟨b,rfl,by omega⟩,h5,h6⟩
 · rintro ⟨h3,⟨c,hc,h4⟩,h5,h6⟩
   cases hc
   exact ⟨by omega,h5,h6⟩
def zD (n:Nd):Prop:=n.fr=0∧n.to=0∧n.known=0
def zT (n:Nd):Prop:=n.tab.den=0∧n.tab.ps=[]
theorem P1 {α:Type} (l:List α):(((l.length:Nat):Int)=0)=(l=[]):=propext ⟨fun h=>List.eq_nil_of_length_eq_zero (by omega),fun h=>by rw [h];rfl⟩
section
variable (n:Nd)
theorem PT:Cz n=some (mb (n.name=eS∧n.unit=eS∧n.n=0∧zD n∧zT n)):=by
 rw [Cz];simp only [Bs,Cy,Bm,Fi,DB,P1,zD,zT];exact IV (by simp only [and_assoc])
theorem Wv:Db n=some (mb (n.name=eS∧zD n∧zT n∧n.kids=[])):=by
 rw [Db];simp only [Bs,Cy,Bm,Fi,DB,P1,zD,zT];exact IV (by simp only [and_assoc])
theorem dY:Da n=some (mb (n.unit=eS∧n.n=0∧zD n∧zT n∧n.kids=[])):=by
 rw [Da];simp only [Bs,Cy,Bm,Fi,DB,P1,zD,zT];exact IV (by simp only [and_assoc])
theorem cW:DV n=some (mb (n.name=eS∧n.unit=eS∧zD n∧zT n∧n.kids=[])):=by
 rw [DV];simp only [Bs,Cy,Bm,Fi,DB,P1,zD,zT];exact IV (by simp only [and_assoc])
theorem Zv:CZ n=some (mb (n.unit=eS∧n.n=0∧zD n∧zT n)):=by
 rw [CZ];simp only [Bs,Cy,Bm,Fi,DB,P1,zD,zT];exact IV (by simp only [and_assoc])
theorem Zq:Dv n=some (mb (n.name=eS∧n.unit=eS∧n.n=0∧zD n)):=by
 rw [Dv];simp only [Bs,Cy,Bm,Fi,DB,zD]
theorem iG:Cl n=some (mb (n.n=0∧zD n∧zT n∧n.kids=[])):=by
 rw [Cl];simp only [Bs,Cy,Bm,Fi,DB,P1,zD,zT];exact IV (by simp only [and_assoc])
theorem eJ:Cm n=some (mb (zD n∧zT n∧n.kids=[])):=by
 rw [Cm];simp only [Bs,Cy,Bm,Fi,DB,P1,zD,zT];exact IV (by simp only [and_assoc])
theorem Yb:B7 n=some (mb (n.unit=eS∧zD n∧zT n)):=by
 rw [B7];simp only [Bs,Cy,Bm,Fi,DB,P1,zD,zT];exact IV (by simp only [and_assoc])
theorem Y1:Dx n=some (mb (n.name=eS∧n.unit=eS∧zT n∧n.kids=[])):=by
 rw [Dx];simp only [Bs,Cy,Bm,Fi,DB,P1,zT];exact IV (by simp only [and_assoc])
end
theorem Sj {α:Type} {l:List α}:l.length=0↔l=[]:=List.length_eq_zero_iff
theorem MP {a d m:Int} (hd:0 < d) (h:a.tmod d=0):(-m≤a.tdiv d∧a.tdiv d≤m)↔(-(m*d)≤a∧a≤m*d):=by
 have e:d*a.tdiv d=a:=Int.mul_tdiv_cancel' (Int.dvd_of_tmod_eq_zero h)
 generalize a.tdiv d=q at *
 subst e
 constructor
 · rintro ⟨h1,h2⟩
   have a1:=Int.mul_le_mul_of_nonneg_left h1 (Int.le_of_lt hd)
   have a2:=Int.mul_le_mul_of_nonneg_left h2 (Int.le_of_lt hd)
   rw [Int.mul_neg,Int.mul_comm d m] at a1
   rw [Int.mul_comm d m] at a2
   exact ⟨a1,a2⟩
 · rintro ⟨h1,h2⟩
   rw [Int.mul_comm m d] at h1 h2
   refine ⟨Int.le_of_mul_le_mul_left ?_ hd,Int.le_of_mul_le_mul_left h2 hd⟩
   rw [Int.mul_neg];exact h1
theorem ZQ (f:Fn) (hf:Y8 f):EO f=some (mb (SH f)):=by
 obtain ⟨hl,hpc⟩:=hf
 rw [EO,GN,GN]
 simp only [Option.bind_some,Bm]
 by_cases hr:1≤f.den∧f.den≤1000000
 rotate_left
 · rw [Af hr];exact Gc fun q=>hr q.1
 rw [Ah hr]
 by_cases hn:1≤((f.ps.length:Nat):Int)∧((f.ps.length:Nat):Int)≤64
 rotate_left
 · rw [Af hn];exact Gc fun q=>hn ⟨by have:=q.2.1;omega,by have:=q.2.1;omega⟩
 rw [Ah hn,G9 (v:=false) (P:=fun i y=>La f i y∧(i=0→y.fr=0)) hl (fun i y hy=>by
   have hi:i < f.ps.length:=(List.getElem?_eq_some_iff.1 hy).1
   obtain ⟨_,hat,_⟩:=hpc y (List.mem_of_getElem? hy)
   have hden:f.den≠0:=by omega
   have hd0:0 < f.den:=by omega
   have hm:LS y.att f.den=some (y.att.tmod f.den):=by unfold LS ZH;rw [if_neg hden]
   have hq:Wp y.att f.den=some (y.att.tdiv f.den):=by
     unfold Wp gY
     rw [if_neg hden]
     have h1:(y.att.tdiv f.den).natAbs≤y.att.natAbs:=Int.natAbs_tdiv_le_natAbs _ _
     have h3:-9223372036854775808≤y.att.tdiv f.den∧y.att.tdiv f.den≤9223372036854775807:=by
       by_cases hneg:f.den=1
       · rw [hneg,Int.tdiv_one];exact hat
       · have h2:y.att.natAbs≤9223372036854775808:=by omega
         have h4:(y.att.tdiv f.den).natAbs < 9223372036854775808:=by
           rw [Int.natAbs_tdiv]
           have h5:2≤f.den.natAbs:=by omega
           have:y.att.natAbs / f.den.natAbs≤y.att.natAbs / 2:=Nat.div_le_div_left h5 (by decide)
           have h6:y.att.natAbs / 2≤9223372036854775808 / 2:=Nat.div_le_div_right h2
           exact Nat.lt_of_le_of_lt (Nat.le_trans this h6) (by decide)
         omega
     congr 1
     have h7:=KF h3
     rw [K8] at h7
     exact h7
   have hwm1:OF 999999999999 f.den=999999999999*f.den:=S3 (by omega)
   have hwm2:OF (-999999999999) f.den=-(999999999999*f.den):=by rw [S3 (by omega)];omega
   simp only [Fk,hm,hq,GN,Option.bind_some,Bs,D9,EJ,Bm]
   unfold La
   rw [hm,hwm1,hwm2]
   by_cases h0:i=0
   · subst h0
     rw [Ah (show (((0:Nat):Int)=0) from rfl)]
     simp only [QS,Va,WI]
     congr 2
     apply propext
     simp only [Option.some.injEq,Nat.lt_irrefl,false_implies,implies_true,true_and]
     constructor
     · rintro ⟨a,b,c,d,e⟩
       have:=(MP (m:=999999999999) hd0 a).1 b
       exact ⟨⟨by omega,a,this.2,this.1,c.2,c.1⟩,fun _=>e⟩
     · rintro ⟨⟨a,b,c,d,e,g⟩,h⟩
       exact ⟨b,(MP hd0 b).2 ⟨d,c⟩,⟨g,e⟩,by omega,h trivial⟩
   · rw [Af (show ¬ (((i:Nat):Int)=0) by omega),Ah (show (0:Int) < ((i:Nat):Int) by omega),Lh (by omega)]
     obtain ⟨pv,hpq⟩:∃ pv,f.ps[i - 1]?=some pv:=⟨_,List.getElem?_eq_getElem (by omega)⟩
     have hg:LP f.ps (((i:Nat):Int) - 1)=some pv:=by
       unfold LP
       rw [show (((i:Nat):Int) - 1).toNat=i - 1 by omega,if_pos (by omega)]
       exact hpq
     rw [hg,hpq]
     simp only [Option.bind_some,UH,Va,WI]
     congr 2
     apply propext
     simp only [Option.some.injEq,forall_eq']
     constructor
     · rintro ⟨a,b,c,d,e⟩
       have:=(MP (m:=999999999999) hd0 a).1 b
       exact ⟨⟨by omega,fun q _ e=>by subst e;omega,a,this.2,this.1,c.2,c.1⟩,fun q=>absurd q h0⟩
     · rintro ⟨⟨a,p,b,c,d,e,g⟩,h⟩
       exact ⟨b,(MP hd0 b).2 ⟨d,c⟩,⟨g,e⟩,by omega,by have:=p pv (by omega) rfl;omega⟩),Fi]
 refine IV ?_
 unfold SH D0
 constructor
 · intro h
   exact ⟨hr,by omega,fun x hx=>(h 0 x hx).2 rfl,fun i p hp=>(h i p hp).1⟩
 · rintro ⟨_,_,h3,h4⟩ i p hp
   exact ⟨h4 i p hp,fun e=>h3 p (by rw [← e];exact hp)⟩
theorem V4 (n:Nd):Dw n=some (mb (n.kind=11∧(n.name=eS∧zD n∧zT n∧n.kids=[])∧n.unit=Bw∧D0 n.n)):=by
 rw [Dw,Wv,GN]
 simp only [Option.bind_some,Bs,Cy,Bm,DB]
 rfl
end Mo
end Go.Proofs.YtkfplcngmiljaaaGreatDoor
namespace Go.Proofs.YtkfplcngmiljaaaGreatDoor
open AI Go
namespace Mo
set_option maxRecDepth 100000
set_option maxHeartbeats 4000000
theorem Tg (l m:List Nd):Gs (l++m)=Gs l+Gs m:=by
 induction l with
 | nil=>simp [Gs]
 | cons a l ih=>simp only [List.cons_append,Gs,ih];omega
theorem Wm {l:List Nd} {i:Nat} {y:Nd} (h:l[i]?=some y):Gs (l.take (i+1))=Gs (l.take i)+D3 y:=by
 rw [List.take_add_one,h,Tg];simp [Gs]
theorem WS (l:List Nd) (i:Nat):Gs (l.take i)≤Gs l:=by
 have:=Tg (l.take i) (l.drop i)
 rw [List.take_append_drop] at this
 omega
theorem mX:∀ (n:Nat) (e:Nd) (l:Int),C8 e→D3 e≤n→l≤1000000→Be n e l=some (max 0 (min ((D3 e:Nat):Int) l)):=by
 intro n
 induction n with
 | zero=>intro e l _ h;have:=Dy e;omega
 | succ n ih =>
   intro e l hok hn hl
   obtain ⟨_,hk,hks⟩:=FE hok
   have hp:=Dy e
   rw [Be,Di,XJ]
   simp only [EJ,Bm,R7,K3]
   refine ⟨fun h=>by omega,fun h=>?_⟩
   refine Yu (fun i x=>x=min (((1+Gs (e.kids.take i):Nat)):Int) l) hk (by simp [Gs];omega) (fun i y x hy hx=>?_) (fun x hx=>?_)
   · have hm:=List.mem_of_getElem? hy
     have h1:=Wm hy
     have h2:=WS e.kids (i+1)
     have h3:=PW hm
     simp only [CI,D9,Bm,R7,Te,K3,lD,mE]
     refine ⟨fun h4=>?_,fun h4=>by omega⟩
     rw [Lh (by omega),ih y (l - x) (hks y hm) (by omega) (by omega),K3,Ew (by omega)]
     omega
   · rw [List.take_length] at hx
     rw [K3];omega
theorem nL (e:Nd) (l:Int) (h:C8 e) (hl:0≤l∧l < 1000000):CX e l=some (mb (((D3 e:Nat):Int)≤l)):=by
 have hc:FY e (l+1)=some (max 0 (min ((D3 e:Nat):Int) (l+1))):=Lt (D3 e) fun n hn=>mX n e (l+1) h hn (by omega)
 rw [CX,Ew (by omega),hc,XJ]
 simp only [EJ,Bm,R7,K3,Te,SF,Mp]
 omega
theorem eP:∀ (n:Nat) (e:Nd) (l:Int),C8 e→D3 e≤n→-1000000≤l→l≤1000000→De n e l=some (mb (((J3 e:Nat):Int)≤l)):=by
 intro n
 induction n with
 | zero=>intro e l _ h;have:=Dy e;omega
 | succ n ih =>
   intro e l hok hn hl0 hl
   obtain ⟨_,hk,hks⟩:=FE hok
   have hp:=Jr e
   rw [De,GC,D9,Bm]
   by_cases h:l < 1
   · rw [Ah h];refine Gc ?_;omega
   rw [Af h,G9 (v:=false) (P:=fun _ y=>((J3 y:Nat):Int)≤l - 1) hk (fun i y hy=>by
     have hm:=List.mem_of_getElem? hy
     have h3:=PW hm
     simp only [FV]
     rw [Lh (by omega),ih y (l - 1) (hks y hm) (by omega) (by omega) (by omega)]
     simp only [Option.bind_some,Bm,QS]),Fi,Kk]
   refine IV ?_
   have h4:(∀ k∈e.kids,((J3 k:Nat):Int)≤l - 1)↔Wi e.kids≤(l - 1).toNat:=by
     rw [M4]
     exact ⟨fun h k hk=>by have:=h k hk;omega,fun h k hk=>by have:=h k hk;omega⟩
   rw [h4]
   omega
theorem cV (e:Nd) (h:C8 e):Fl e=some (mb (D3 e≤2000∧J3 e≤40)):=by
 have hf:Iy e 40=some (mb (((J3 e:Nat):Int)≤40)):=Lt (D3 e) fun n hn=>eP n e 40 h hn (by omega) (by omega)
 rw [Fl,nL e 2000 h (by omega),hf]
 simp only [Option.bind_some,Bm,DB]
 refine IV ?_
 omega
theorem Ux {n:Nd} {nm un:ByteArray} {k f t w:Int} {tb:Fn}:CT n ⟨0,nm,un,k,f,t,w,tb,[],0⟩↔n.name=nm∧n.unit=un∧n.n=k∧n.fr=f∧n.to=t∧n.known=w∧n.tab.den=tb.den∧n.tab.ps=tb.ps:=Iff.rfl
theorem O3 {k:Nd}:JN k∧JS k↔(k.kind=11∧(k.name=eS∧zD k∧zT k∧k.kids=[])∧k.unit=Bw∧D0 k.n):=by
 rw [MJ]
 unfold JS zD zT D0
 constructor
 · rintro ⟨⟨h1,_⟩,h2,h3,h4⟩
   obtain ⟨_,_,_,_,hl,hb⟩:=(Yy h2).1 h1
   obtain ⟨b1,_,_,b4,b5,b6,b7,b8⟩:=Ux.1 hb
   exact ⟨h2,⟨b1,⟨b4,b5,b6⟩,⟨b7,b8⟩,Sj.1 hl⟩,h3,h4⟩
 · rintro ⟨h2,⟨b1,⟨b4,b5,b6⟩,⟨b7,b8⟩,hl⟩,h3,h4⟩
   refine ⟨⟨(Yy h2).2 ⟨.inr (.inl h3),by omega,by omega,fun e=>?_,by rw [hl];rfl,Ux.2 ⟨b1,rfl,rfl,b4,b5,b6,b7,b8⟩⟩,fun k hk=>by rw [hl] at hk;cases hk⟩,h2,h3,h4⟩
   rw [h3] at e
   exact absurd (congrArg ByteArray.data e) (by decide)
theorem YG:∀ (q:Nat) (n:Nd),C8 n→2*D3 n≤q→BX q n=some (mb (JN n)):=by
 intro q
 induction q using Nat.strongRecOn with
 | _ q ih =>
 intro n hok hq
 have hsz:=Dy n
 obtain ⟨q,rfl⟩:∃ k,q=k+1:=⟨q - 1,by omega⟩
 obtain ⟨hps,hkl,hks⟩:=FE hok
 have hfn:=((KR n).1 hok).1
 have hE:∀ k∈n.kids,∀ q',q≤q'+1→q' < q+1→BX q' k=some (mb (JN k)):=fun k hk q' h4 h5=>ih q' h5 k (hks k hk) (by have:=Hl hk;omega)
 have hL:0 < n.kids.length→CF q n.kids=some (mb (∀ k∈n.kids,JN k)):=by
   intro h
   obtain ⟨q,rfl⟩:∃ k,q=k+1:=⟨q - 1,by have:=MK n.kids;omega⟩
   rw [CF,FQ,G9 (v:=false) (P:=fun _ y=>JN y) hkl (fun i y hy=>by
     simp only [Fs]
     rw [hE y (List.mem_of_getElem? hy) q (by omega) (by omega)]
     simp only [Option.bind_some,Bm,QS]),Fi,Kk]
 rw [BX,GA]
 simp only [Bs,Cy,EJ,Bm,Wv,dY,cW,PT,Zv,Zq,GN,bK,VD,V4,ZQ _ hfn,Option.bind_some]
 rw [MJ]
 have nokids:n.kids=[]→(∀ k∈n.kids,JN k):=fun h k hk=>by rw [h] at hk;cases hk
 by_cases WH:n.kind=11
 · rw [Ah WH,Yy WH,Ux,Sj]
   simp only [Fi,DB,aJ,Is,zD,zT,GR]
   have tt:AM (Sa n.unit) (some true) (some true)=some (mb True):=by rw [Is,kW]
   have hb:∀ {A:Prop},AM A (some (mb True)) (some false)=some (mb A):=by intro A;rw [DB];exact IV (by simp)
   first
     | (simp only [tt,kW,DB,Z6])
     | skip
   refine IV ⟨?_,?_⟩
   · rintro ⟨⟨b1,⟨b2,b3,b4⟩,⟨b5,b6⟩,b7⟩,h1,h2⟩
     refine ⟨?_,nokids b7⟩
     by_cases ht:n.unit=A4
     · have:=h1 ht
       exact ⟨.inl ht,by omega,by omega,fun _=>by omega,b7,b1,trivial,trivial,b2,b3,b4,b5,b6⟩
     · obtain ⟨h3,h4⟩:=h2 ht
       refine ⟨?_,by omega,by omega,fun h=>absurd h ht,b7,b1,trivial,trivial,b2,b3,b4,b5,b6⟩
       rcases h4 with h | h | h
       · exact .inr (.inr (.inr h))
       · exact .inr (.inl h)
       · exact .inr (.inr (.inl h))
   · rintro ⟨⟨h0,h1,h2,h3,b7,b1,_,_,b2,b3,b4,b5,b6⟩,_⟩
     refine ⟨⟨b1,⟨b2,b3,b4⟩,⟨b5,b6⟩,b7⟩,fun ht=>⟨⟨h1,h3 ht⟩,h1,h2⟩,fun ht=>⟨⟨h1,h2⟩,?_⟩⟩
     rcases h0 with h | h | h | h
     · exact absurd h ht
     · exact .inr (.inl h)
     · exact .inr (.inr h)
     · exact .inl h
 rw [Af WH]
 by_cases Wg:n.kind=12
 · rw [Ah Wg,kT Wg,Ux,Sj]
   simp only [DB,zD,zT]
   refine IV ?_
   constructor
   · rintro ⟨⟨b1,b2,⟨b3,b4,b5⟩,⟨b6,b7⟩,b8⟩,h⟩
     exact ⟨⟨h,b8,trivial,b1,b2,b3,b4,b5,b6,b7⟩,nokids b8⟩
   · rintro ⟨⟨h,b8,_,b1,b2,b3,b4,b5,b6,b7⟩,_⟩
     exact ⟨⟨b1,b2,⟨b3,b4,b5⟩,⟨b6,b7⟩,b8⟩,h⟩
 rw [Af Wg]
 by_cases V2:n.kind=13
 · rw [Ah V2,nI V2,Ux,Sj]
   simp only [DB,zD,zT]
   refine IV ?_
   constructor
   · rintro ⟨⟨b1,b2,⟨b3,b4,b5⟩,⟨b6,b7⟩,b8⟩,h⟩
     exact ⟨⟨h,b8,b1,b2,trivial,b3,b4,b5,b6,b7⟩,nokids b8⟩
   · rintro ⟨⟨h,b8,b1,b2,_,b3,b4,b5,b6,b7⟩,_⟩
     exact ⟨⟨b1,b2,⟨b3,b4,b5⟩,⟨b6,b7⟩,b8⟩,h⟩
 rw [Af V2]
 by_cases WD:n.kind=14
 · rw [Ah WD,lA WD,Ux,Sj,iJ _ _ (by decide)]
   simp only [Option.bind_some,DB,zD,zT]
   refine IV ?_
   have hd:n.name∈[DU,My,Gb,IQ]↔Np n.name:=by
     unfold Np
     simp only [List.mem_cons,List.not_mem_nil,or_false]
   rw [hd]
   constructor
   · rintro ⟨⟨b1,b2,⟨b3,b4,b5⟩,⟨b6,b7⟩,b8⟩,h⟩
     exact ⟨⟨h,b8,trivial,b1,b2,b3,b4,b5,b6,b7⟩,nokids b8⟩
   · rintro ⟨⟨h,b8,_,b1,b2,b3,b4,b5,b6,b7⟩,_⟩
     exact ⟨⟨b1,b2,⟨b3,b4,b5⟩,⟨b6,b7⟩,b8⟩,h⟩
 rw [Af WD]
 have hone:∀ {β:Type} (f:Bool→Option β),n.kids.length=1→((n.kids[0]?).bind fun x=>(BX q x).bind f)=f (mb (∀ k∈n.kids,JN k)):=by
   intro β f hl
   have hE0:=fun k hk=>hE k hk q (by omega) (by omega)
   generalize n.kids=ks at *
   match ks,hl with
   | [x],_ =>
   simp only [List.getElem?_cons_zero,Option.bind_some]
   rw [hE0 x (by simp)]
   simp only [Option.bind_some]
   congr 1
   exact EW (by simp)
 by_cases Ws:n.kind=15
 · rw [Ah Ws,dS Ws,Ux]
   by_cases hl:n.kids.length=1
   · rw [Ah (show ((n.kids.length:Nat):Int)=1 by omega),hone _ hl]
     simp only [DB,zD,zT]
     refine IV ?_
     constructor
     · rintro ⟨⟨b1,b2,b0,⟨b3,b4,b5⟩,⟨b6,b7⟩⟩,h⟩
       exact ⟨⟨hl,b1,b2,b0,b3,b4,b5,b6,b7⟩,h⟩
     · rintro ⟨⟨_,b1,b2,b0,b3,b4,b5,b6,b7⟩,h⟩
       exact ⟨⟨b1,b2,b0,⟨b3,b4,b5⟩,⟨b6,b7⟩⟩,h⟩
   · rw [Af (show ¬ ((n.kids.length:Nat):Int)=1 by omega),Is]
     exact Gc fun a=>hl a.1.1
 rw [Af Ws]
 by_cases TX:n.kind=16
 · rw [Ah TX,eV TX,Ux,iJ _ _ (by decide)]
   have hop:n.name∈[QT,Hc,GX,GO,Nb,GP,JY,M0,NO,H8,RE]↔Oo n.name:=by
     unfold Oo
     simp only [List.mem_cons,List.not_mem_nil,or_false]
     constructor
     · rintro (h | h | h | h | h | h | h | h | h | h | h)<;>simp [h]
     · rintro (h | h | h | h | h | h | h | h | h | h | h)<;>simp [h]
   by_cases hl:n.kids.length=2
   rotate_left
   · rw [Af (show ¬ ((n.kids.length:Nat):Int)=2 by omega),Is]
     exact Gc fun a=>hl a.1.2.1
   rw [Ah (show ((n.kids.length:Nat):Int)=2 by omega),hL (by omega)]
   have hk1:n.kids[1]?=some n.kids[1]:=List.getElem?_eq_getElem (by omega)
   have hmem:n.kids[1]∈n.kids:=List.getElem_mem _
   rw [hk1]
   simp only [Option.bind_some,V4,Bm,DB,Z6,hop,zD,zT]
   refine IV ?_
   have hnum:=@O3 n.kids[1]
   unfold zD zT at hnum
   generalize n.kids[1]=x at *
   simp only [Option.some.injEq,forall_eq']
   constructor
   · rintro ⟨⟨b2,b0,⟨b3,b4,b5⟩,⟨b6,b7⟩⟩,h1,h2⟩
     by_cases hs:n.name=H8
     · obtain ⟨c1,c2,c3⟩:=h1 hs
       exact ⟨⟨⟨trivial,b2,b0,b3,b4,b5,b6,b7⟩,hl,c2,fun _=>(hnum.2 c1).2⟩,c3⟩
     · obtain ⟨c2,c3⟩:=h2 hs
       exact ⟨⟨⟨trivial,b2,b0,b3,b4,b5,b6,b7⟩,hl,c2,fun h=>absurd h hs⟩,c3⟩
   · rintro ⟨⟨⟨_,b2,b0,b3,b4,b5,b6,b7⟩,_,c2,c1⟩,c3⟩
     exact ⟨⟨b2,b0,⟨b3,b4,b5⟩,⟨b6,b7⟩⟩,fun hs=>⟨hnum.1 ⟨c3 x hmem,c1 hs⟩,c2,c3⟩,fun _=>⟨c2,c3⟩⟩
 rw [Af TX]
 by_cases XE:n.kind=17
 · rw [Ah XE,cZ XE,Ux]
   by_cases hl:2≤n.kids.length
   rotate_left
   · rw [Af (show ¬ 2≤((n.kids.length:Nat):Int) by omega),Is]
     exact Gc fun a=>hl a.1.2.2
   rw [Ah (show 2≤((n.kids.length:Nat):Int) by omega),hL (by omega)]
   simp only [Option.bind_some,DB,Z6,zD,zT]
   refine IV ?_
   constructor
   · rintro ⟨⟨b2,b0,⟨b3,b4,b5⟩,⟨b6,b7⟩⟩,h1,h2⟩
     by_cases hs:n.name=FJ
     · exact ⟨⟨.inl hs,⟨trivial,b2,b0,b3,b4,b5,b6,b7⟩,hl⟩,h1 hs⟩
     · exact ⟨⟨.inr (h2 hs).1,⟨trivial,b2,b0,b3,b4,b5,b6,b7⟩,hl⟩,(h2 hs).2⟩
   · rintro ⟨⟨c1,⟨_,b2,b0,b3,b4,b5,b6,b7⟩,_⟩,c3⟩
     exact ⟨⟨b2,b0,⟨b3,b4,b5⟩,⟨b6,b7⟩⟩,fun _=>c3,fun hs=>⟨c1.resolve_left hs,c3⟩⟩
 rw [Af XE]
 by_cases WJ:n.kind=18
 · rw [Ah WJ,dQ WJ,Ux]
   by_cases hl:n.kids.length=1
   · rw [Ah (show ((n.kids.length:Nat):Int)=1 by omega),hone _ hl]
     simp only [Bm,DB,zD]
     refine IV ?_
     constructor
     · rintro ⟨⟨b1,b2,b0,⟨b3,b4,b5⟩⟩,h,h2⟩
       exact ⟨⟨⟨b1,b2,b0,b3,b4,b5,trivial,trivial⟩,h2,hl⟩,h⟩
     · rintro ⟨⟨⟨b1,b2,b0,b3,b4,b5,_,_⟩,h2,_⟩,h⟩
       exact ⟨⟨b1,b2,b0,⟨b3,b4,b5⟩⟩,h,h2⟩
   · rw [Af (show ¬ ((n.kids.length:Nat):Int)=1 by omega),Is]
     exact Gc fun a=>hl a.1.2.2
 rw [Af WJ]
 exact Gc fun a=>by have:=PK a.1;omega
theorem Wb {n:Nd} (hok:C8 n):Er n=some (mb (JN n)):=Lt (2*D3 n) fun q hq=>YG q n hok hq
theorem fQ {n:Nd}:CV n=some (mb (H3 n)):=by
 rw [CV,Y1]
 simp only [GN,Option.bind_some,Bs,Bm]
 unfold H3
 rw [Ux,Sj]
 unfold zT UR
 by_cases hf:0≤n.fr∧n.fr≤36524
 · rw [Ew (by omega)]
   simp only [DB]
   refine IV ⟨?_,?_⟩
   · rintro ⟨k5,⟨b1,b2,⟨b3,b4⟩,b5⟩,⟨h1,h2⟩,h3,⟨h4,h5⟩,h6⟩
     exact ⟨k5,⟨h1,h2⟩,b5,h3,⟨by omega,h5⟩,h6,b1,b2,trivial,trivial,trivial,trivial,b3,b4⟩
   · rintro ⟨k5,h1,b5,h3,⟨h4,h5⟩,h6,b1,b2,_,_,_,_,b3,b4⟩
     exact ⟨k5,⟨b1,b2,⟨b3,b4⟩,b5⟩,h1,h3,⟨by omega,h5⟩,h6⟩
 · rw [Af hf]
   simp only [Is]
   exact Gc fun a=>hf a.2.2.2.1
theorem UP (l:List Nd) (hl:l.length≤9223372036854775807):DT l=some (mb (0 < l.length∧∀ k∈l,JN k∧JS k)):=by
 rw [DT,G9 (v:=false) (P:=fun _ k=>JN k∧JS k) hl (fun i k _=>by
   simp only [Eo,V4,Option.bind_some,Bm,QS,O3]),D9,Bm]
 simp only [Fi,DB,Kk]
 exact IV ⟨fun a=>⟨by omega,a.1⟩,fun a=>⟨a.2,by omega⟩⟩
theorem SR (n:Nd):CT n z0↔n.name=eS∧n.unit=eS∧n.n=0∧zD n∧zT n:=by
 unfold zD zT
 rw [Ux]
 simp only [and_assoc]
theorem Ju:∀ {l:List Nd} {i:Nat} {a b:Nat},(∀ x∈l,C8 x)→a+l.length≤9223372036854775807→b+l.length≤9223372036854775807 →
   Bb (fun i y x=>BL i y x.1 x.2) (fun x=>(x.1,x.2)) l i (((a:Nat):Int),((b:Nat):Int))=(some (AM (kinds l∧∀ k∈l,Bv k) (.inl (((a+BQ 7 l:Nat):Int),((b+BQ 8 l:Nat):Int))) (.inr false)):Option ((Int×Int)⊕Bool))
 | [],i,a,b,_,_,_=>by rw [Ah (show kinds []∧_ from ⟨fun k hk=>(by cases hk),fun k hk=>(by cases hk)⟩)];rfl
 | x::l,i,a,b,hok,ha,hb=>by
   simp only [List.length_cons] at ha hb
   have hx:=hok x (by simp)
   obtain ⟨hps,hkl,hks⟩:=FE hx
   rw [Bb,BL,PT]
   simp only [Option.bind_some,Bs,Bm,UP _ hkl]
   have hsplit:(kinds (x::l)∧∀ k∈x::l,Bv k)↔((6≤x.kind∧x.kind≤8)∧Bv x)∧kinds l∧∀ k∈l,Bv k:=by
     unfold kinds
     simp only [List.mem_cons,forall_eq_or_imp]
     exact ⟨fun ⟨⟨p,q⟩,r,s⟩=>⟨⟨p,r⟩,q,s⟩,fun ⟨⟨p,r⟩,q,s⟩=>⟨⟨p,q⟩,r,s⟩⟩
   have stop:¬ ((6≤x.kind∧x.kind≤8)∧Bv x)→(some (Lp.rt false):Option (Lp (Int×Int) (Int×Int) Bool)).bind (G5 (Bb (fun i y x=>BL i y x.1 x.2) (fun x=>(x.1,x.2)) l (i+1)))=some (AM (kinds (x::l)∧∀ k∈x::l,Bv k) (.inl (((a+BQ 7 (x::l):Nat):Int),((b+BQ 8 (x::l):Nat):Int))) (.inr false)):=by
     intro h
     rw [Af fun q=>h (hsplit.1 q).1];rfl
   have go:∀ {a' b':Nat},((6≤x.kind∧x.kind≤8)∧Bv x)→a'≤a+1→b'≤b+1→a'+BQ 7 l=a+BQ 7 (x::l)→b'+BQ 8 l=b+BQ 8 (x::l)→(some (Lp.nx (((a':Nat):Int),((b':Nat):Int))):Option (Lp (Int×Int) (Int×Int) Bool)).bind (G5 (Bb (fun i y x=>BL i y x.1 x.2) (fun x=>(x.1,x.2)) l (i+1)))=some (AM (kinds (x::l)∧∀ k∈x::l,Bv k) (.inl (((a+BQ 7 (x::l):Nat):Int),((b+BQ 8 (x::l):Nat):Int))) (.inr false)):=by
     intro a' b' h h1 h2 e1 e2
     have ih:=Ju (l:=l) (i:=i+1) (a:=a') (b:=b') (fun y hy=>hok y (by simp [hy])) (by omega) (by omega)
     rw [e1,e2] at ih
     show Bb _ _ l (i+1) _=_
     rw [ih]
     by_cases hr:kinds l∧∀ k∈l,Bv k
     · rw [Ah hr,Ah (hsplit.2 ⟨h,hr⟩)]
     · rw [Af hr,Af fun q=>hr (hsplit.1 q).2]
   rw [← SR]
   by_cases hb0:CT x z0
   rotate_left
   · rw [Af hb0];exact stop fun q=>hb0 q.2.1
   rw [Ah hb0]
   have one:∀ {A B:Option (Lp (Int×Int) (Int×Int) Bool)},x.kind≠7→(Bv x→A.bind (G5 (Bb (fun i y x=>BL i y x.1 x.2) (fun x=>(x.1,x.2)) l (i+1)))=some (AM (kinds (x::l)∧∀ k∈x::l,Bv k) (.inl (((a+BQ 7 (x::l):Nat):Int),((b+BQ 8 (x::l):Nat):Int))) (.inr false))) →
       (AM (((x.kids.length:Nat):Int)=1) ((x.kids[0]?).bind fun x2=>(Er x2).bind fun y3=>cond y3 A (some (.rt false))) (some (.rt false))).bind (G5 (Bb (fun i y x=>BL i y x.1 x.2) (fun x=>(x.1,x.2)) l (i+1)))=some (AM (kinds (x::l)∧∀ k∈x::l,Bv k) (.inl (((a+BQ 7 (x::l):Nat):Int),((b+BQ 8 (x::l):Nat):Int))) (.inr false)):=by
     intro A B k7 hA
     by_cases hl:x.kids.length=1
     rotate_left
     · rw [Af (by omega)];exact stop fun q=>hl (q.2.2.2 k7).1
     rw [Ah (by omega)]
     obtain ⟨k,hk⟩:∃ k,x.kids=[k]:=by
       generalize x.kids=ks at hl
       match ks,hl with
       | [k],_=>exact ⟨k,rfl⟩
     have h0:x.kids[0]?=some k:=by rw [hk];rfl
     rw [h0]
     simp only [Option.bind_some]
     rw [Wb (hks k (by rw [hk];simp))]
     simp only [Option.bind_some,Bm]
     have hc:Bv x↔JN k:=by
       unfold Bv
       constructor
       · intro q;exact (q.2.2 k7).2 k (by rw [hk];simp)
       · intro q;exact ⟨hb0,fun h=>absurd h k7,fun _=>⟨hl,fun k' hk'=>by rw [hk,List.mem_singleton] at hk';rw [hk'];exact q⟩⟩
     by_cases he:JN k
     · rw [Ah he];exact hA (hc.2 he)
     · rw [Af he];exact stop fun q=>he (hc.1 q.2)
   by_cases k6:x.kind=6
   · rw [Ah k6]
     refine one (B:=none) (by omega) fun h=>go ⟨by omega,h⟩ (by omega) (by omega) (by simp [BQ,k6]) (by simp [BQ,k6])
   rw [Af k6]
   by_cases k8:x.kind=8
   · rw [Ah k8,Ew (by omega),show ((b:Nat):Int)+1=((b+1:Nat):Int) by omega]
     refine one (B:=none) (by omega) fun h=>go ⟨by omega,h⟩ (by omega) (by omega) (by simp [BQ,k8]) (by simp [BQ,k8];omega)
   rw [Af k8]
   by_cases k7:x.kind=7
   · rw [Ah k7]
     have hc:Bv x↔(0 < x.kids.length∧∀ k∈x.kids,JN k∧JS k):=by
       unfold Bv
       exact ⟨fun q=>q.2.1 k7,fun q=>⟨hb0,fun _=>q,fun h=>absurd k7 h⟩⟩
     rw [← hc]
     by_cases h:Bv x
     · rw [Ah h,Ew (by omega),show ((a:Nat):Int)+1=((a+1:Nat):Int) by omega]
       exact go ⟨by omega,h⟩ (by omega) (by omega) (by simp [BQ,k7];omega) (by simp [BQ,k7])
     · rw [Af h];exact stop fun q=>h q.2
   · rw [Af k7];exact stop fun q=>by have:=q.1;omega
theorem Uv (l:List Nd) (hok:∀ x∈l,C8 x) (hl:l.length≤9223372036854775807):BY l=some (mb ((kinds l∧∀ k∈l,Bv k)∧BQ 7 l≤1∧BQ 8 l=1)):=by
 have h:=Ju (l:=l) (i:=0) (a:=0) (b:=0) hok (by omega) (by omega)
 rw [BY,Gd hl,List.drop_zero]
 rw [show (((0:Nat):Int))=0 from rfl] at h
 rw [h]
 by_cases hc:kinds l∧∀ k∈l,Bv k
 · rw [Ah hc]
   simp only [Option.bind_some,Kx,EJ,Bs,Bm,Fi,DB]
   exact IV ⟨fun q=>⟨hc,by omega,by omega⟩,fun q=>⟨by omega,by omega⟩⟩
 · rw [Af hc]
   exact Gc fun q=>hc q.1
theorem O2 {n:Nd} (hok:C8 n) (u:Prop):AM (n.kind=2) (AM (n.n=0∧zD n∧zT n∧n.kids=[]) (some (mb u)) (some false)) (AM (n.kind=3) (AM (zD n∧zT n∧n.kids=[]) (AM u (some (mb (1≤n.n∧n.n≤4))) (some false)) (some false)) (AM (n.kind=4) (AM (n.unit=eS∧zD n∧zT n) (AM (1≤n.n∧n.n≤1000000) (AM (1 < ((n.kids.length:Nat):Int)) ((n.kids[0]?).bind fun x=>(CV x).bind fun y=>cond y ((Jn n.kids 1 ((n.kids.length:Nat):Int)).bind fun l=>(BY l).bind fun y=>some y) (some false)) (some false)) (some false)) (some false)) (some false)))=some (mb ((n.kind=2∧u∧n.n=0∧zD n∧zT n∧n.kids=[])∨(n.kind=3∧u∧(1≤n.n∧n.n≤4)∧zD n∧zT n∧n.kids=[])∨(n.kind=4∧(n.unit=eS∧zD n∧zT n)∧D0 n.n∧∃ h cs,n.kids=h::cs∧kinds cs∧BQ 8 cs=1∧BQ 7 cs≤1∧H3 h∧∀ k∈cs,Bv k))):=by
 obtain ⟨hps,hkl,hks⟩:=FE hok
 by_cases k2:n.kind=2
 · rw [Ah k2,DB]
   refine IV ⟨fun ⟨a,b⟩=>.inl ⟨k2,b,a⟩,?_⟩
   rintro (a | a | a)
   · exact ⟨a.2.2,a.2.1⟩
   · omega
   · omega
 rw [Af k2]
 by_cases k3:n.kind=3
 · rw [Ah k3,DB,DB]
   refine IV ⟨fun ⟨a,b,c⟩=>.inr (.inl ⟨k3,b,c,a⟩),?_⟩
   rintro (a | a | a)
   · omega
   · exact ⟨a.2.2.2,a.2.1,a.2.2.1⟩
   · omega
 rw [Af k3]
 by_cases k4:n.kind=4
 rotate_left
 · rw [Af k4]
   refine Gc ?_
   rintro (a | a | a)
   · omega
   · omega
   · omega
 rw [Ah k4]
 by_cases hl:1 < n.kids.length
 rotate_left
 · rw [Af (show ¬ (1:Int) < ((n.kids.length:Nat):Int) by omega),Is,Is]
   refine Gc ?_
   rintro (a | a | ⟨_,_,_,h,cs,e,_,e8,_⟩)
   · omega
   · omega
   · rw [e] at hl
     have:=Zm 8 cs
     simp at hl
     rw [hl] at e8
     cases e8
 rw [Ah (show (1:Int) < ((n.kids.length:Nat):Int) by omega)]
 generalize n.kids=ks at *
 match ks,hl with
 | x::l,_ =>
 have hsub:Jn (x::l) 1 (((x::l).length:Nat):Int)=some l:=by
   unfold Jn
   rw [if_pos (by simp only [List.length_cons];omega)]
   simp
 rw [hsub]
 simp only [List.getElem?_cons_zero,Option.bind_some,fQ,Bm]
 rw [Uv l (fun y hy=>hks y (by simp [hy])) (by simp at hkl;omega)]
 simp only [Option.bind_some,DB]
 refine IV ⟨?_,?_⟩
 · rintro ⟨a,b,c,⟨d,e⟩,f,g⟩
   exact .inr (.inr ⟨k4,a,b,x,l,rfl,d,g,f,c,e⟩)
 · rintro (a | a | ⟨_,a,b,h,cs,e,d,g,f,c,e'⟩)
   · omega
   · omega
   · cases e
     exact ⟨a,b,c,⟨d,e'⟩,f,g⟩
theorem cQ {n:Nd} (hok:C8 n):Fu n=some (mb (Gu n)):=by
 have c1:=O2 hok True
 simp only [Ah trivial,← kW] at c1
 have c2:=O2 hok (n.unit=Cw)
 rw [Fu]
 simp only [VD,bK,iG,eJ,Yb,GN,Option.bind_some,Bs,Cy,D9,Bm]
 rw [c1,c2]
 have hbare:∀ {un:ByteArray} {k:Int},CT n ⟨0,n.name,un,k,0,0,0,⟨0,[]⟩,[],0⟩↔n.unit=un∧n.n=k∧zD n∧zT n:=by
   intro un k
   unfold zD zT
   rw [Ux]
   simp only [true_and,and_assoc]
 simp only [DB,Z6]
 refine IV ?_
 unfold Gu YU
 simp only [hbare,Sj,true_and]
 constructor
 · rintro ⟨hn,h1,h2⟩
   have uni:∀ {k:Prop},(GR n.unit→((n.kind=2∧n.n=0∧zD n∧zT n∧n.kids=[])∨(n.kind=3∧(1≤n.n∧n.n≤4)∧zD n∧zT n∧n.kids=[])∨(n.kind=4∧(n.unit=eS∧zD n∧zT n)∧D0 n.n∧∃ h cs,n.kids=h::cs∧kinds cs∧BQ 8 cs=1∧BQ 7 cs≤1∧H3 h∧∀ k∈cs,Bv k)))→GR n.unit→((n.kind=2∧Fv n.name∧GR n.unit∧n.kids=[]∧n.n=0∧zD n∧zT n)∨(n.kind=3∧Fv n.name∧GR n.unit∧1≤n.n∧n.n≤4∧n.kids=[]∧zD n∧zT n)∨(n.kind=4∧D0 n.n∧Fv n.name∧(n.unit=eS∧zD n∧zT n)∧∃ h cs,n.kids=h::cs∧kinds cs∧BQ 8 cs=1∧BQ 7 cs≤1∧H3 h∧∀ k∈cs,Bv k)):=by
     intro _ h hu
     rcases h hu with ⟨a,b,c,d,e⟩ | ⟨a,b,c,d,e⟩ | ⟨a,b,c,d⟩
     · exact .inl ⟨a,hn,hu,e,b,c,d⟩
     · exact .inr (.inl ⟨a,hn,hu,b.1,b.2,e,c,d⟩)
     · exact .inr (.inr ⟨a,c,hn,b,d⟩)
   by_cases hc:Sa n.unit
   · exact uni (k:=True) (fun _=>h1 hc) (.inr (.inr (.inr hc)))
   obtain ⟨h3,h4⟩:=h2 hc
   by_cases ht:n.unit=A4
   · exact uni (k:=True) (fun _=>h3 ht) (.inl ht)
   obtain ⟨h5,h6⟩:=h4 ht
   by_cases hm:n.unit=Bw
   · exact uni (k:=True) (fun _=>h5 hm) (.inr (.inl hm))
   rcases h6 hm with ⟨a,b,r⟩ | ⟨a,b,r⟩ | r
   · exact uni (k:=True) (fun _=>.inl ⟨a,r⟩) (.inr (.inr (.inl b)))
   · exact uni (k:=True) (fun _=>.inr (.inl ⟨a,r⟩)) (.inr (.inr (.inl b)))
   · exact .inr (.inr ⟨r.1,r.2.2.1,hn,r.2.1,r.2.2.2⟩)
 · have back:(n.kind=2∧Fv n.name∧GR n.unit∧n.kids=[]∧n.n=0∧zD n∧zT n)∨(n.kind=3∧Fv n.name∧GR n.unit∧1≤n.n∧n.n≤4∧n.kids=[]∧zD n∧zT n)∨(n.kind=4∧D0 n.n∧Fv n.name∧(n.unit=eS∧zD n∧zT n)∧∃ h cs,n.kids=h::cs∧kinds cs∧BQ 8 cs=1∧BQ 7 cs≤1∧H3 h∧∀ k∈cs,Bv k)→Fv n.name∧(n.kind≠4→GR n.unit)∧((n.kind=2∧n.n=0∧zD n∧zT n∧n.kids=[])∨(n.kind=3∧(1≤n.n∧n.n≤4)∧zD n∧zT n∧n.kids=[])∨(n.kind=4∧(n.unit=eS∧zD n∧zT n)∧D0 n.n∧∃ h cs,n.kids=h::cs∧kinds cs∧BQ 8 cs=1∧BQ 7 cs≤1∧H3 h∧∀ k∈cs,Bv k)):=by
     rintro (⟨a,b,c,d,e,f,g⟩ | ⟨a,b,c,d,d',e,f,g⟩ | ⟨a,b,c,d,e⟩)
     · exact ⟨b,fun _=>c,.inl ⟨a,e,f,g,d⟩⟩
     · exact ⟨b,fun _=>c,.inr (.inl ⟨a,⟨d,d'⟩,f,g,e⟩)⟩
     · exact ⟨c,fun h=>absurd a h,.inr (.inr ⟨a,d,b,e⟩)⟩
   intro h
   obtain ⟨hn,hu,r⟩:=back h
   refine ⟨hn,fun _=>r,fun nc=>⟨fun _=>r,fun nt=>⟨fun _=>r,fun nn=>?_⟩⟩⟩
   rcases r with ⟨a,r⟩ | ⟨a,r⟩ | r
   · have hm:n.unit=Cw:=by
       rcases hu (by omega) with h | h | h | h
       · exact absurd h nt
       · exact absurd h nn
       · exact h
       · exact absurd h nc
     exact .inl ⟨a,hm,r⟩
   · have hm:n.unit=Cw:=by
       rcases hu (by omega) with h | h | h | h
       · exact absurd h nt
       · exact absurd h nn
       · exact h
       · exact absurd h nc
     exact .inr (.inl ⟨a,hm,r⟩)
   · exact .inr (.inr r)
theorem aQ {n:Nd} (hok:C8 n):EP n=some (mb (OE n)):=by
 obtain ⟨hps,hkl,hks⟩:=FE hok
 rw [EP,cV n hok,Wb hok]
 simp only [Option.bind_some,Bm,Bs]
 unfold OE
 by_cases hf:D3 n≤2000∧J3 n≤40
 rotate_left
 · rw [Af hf];exact Gc fun q=>hf q.2
 rw [Ah hf]
 by_cases k1:n.kind=1
 · rw [Ah k1,G9 (v:=false) (P:=fun _ k=>Gu k) hkl (fun i k hk=>by
     simp only [Fo]
     rw [cQ (hks k (List.mem_of_getElem? hk))]
     simp only [Option.bind_some,Bm,QS]),PT]
   simp only [Option.bind_some,DB,Kk]
   refine IV ⟨fun q=>⟨.inl ⟨k1,(SR n).2 q.2,q.1⟩,hf⟩,?_⟩
   rintro ⟨a | a,_⟩
   · exact ⟨a.2.2,(SR n).1 a.2.1⟩
   · exact absurd k1 a.1
 · rw [Af k1]
   refine IV ⟨fun q=>⟨.inr ⟨k1,q⟩,hf⟩,?_⟩
   rintro ⟨a | a,_⟩
   · exact absurd a.1 k1
   · exact a.2
end Mo
end Go.Proofs.YtkfplcngmiljaaaGreatDoor
namespace LexS
def Lq (n:Nat):Nat :=
 if n=32∨n=9∨n=10∨n=13 then 1
 else if 97≤n∧n≤122 then 2
 else if 65≤n∧n≤90 then 4
 else if 48≤n∧n≤57 then 8
 else if n=95 then 16
 else 0
def cin (m:Nat) (c:UInt8):Bool:=(Lq c.toNat &&& m) != 0
def Bz (m:Nat) (t:List UInt8):Nat:=(t.takeWhile (cin m)).length
def Hb (m:Nat) (t:List UInt8):Bool:=match t with
 | []=>false
 | c::_=>cin m c
def FK (b:Bool):List UInt8→Nat
 | []=>0
 | c::t =>
   if b then (if c=10 then 1+FK false t else 1+FK true t)
   else if cin 1 c then 1+FK false t
   else if c=47∧t.head?=some 47 then 1+FK true t
   else 0
def EC (t:List UInt8):Nat:=FK false t
def Jq (t:List UInt8) (i:Nat):Bool :=
 if i=4∨i=7 then t[i]? == some 45 else Hb 8 (t.drop i)
def GZ (t:List UInt8):Bool:=decide (10≤t.length)&&(List.range 10).all (Jq t)
def free (t:List UInt8):Bool:=!(Hb 30 t||t.head? == some 46)
def F0 (t:List UInt8):Nat×Nat :=
 let d:=Bz 8 t
 if GZ t then (if free (t.drop 10) then (5,10) else (0,0))
 else if t.head?=some 48∧1 < d then (0,0)
 else if (t.drop d).head?=some 46 then
   (if 10 < d∨Hb 8 (t.drop (d+1))=false∨Hb 8 (t.drop (d+2))=false then (0,0)
    else if free (t.drop (d+3)) then (4,d+3) else (0,0))
 else if 12 < d then (0,0)
 else if free (t.drop d) then (3,d) else (0,0)
def C9:List (List UInt8):=[[61,61],[33,61],[60,61],[62,61],[60],[62],[43],[45],[42],[47],[40],[41],[123],[125],[58],[59],[44]]
def Mv (t:List UInt8):List (List UInt8)→Nat×Nat
 | []=>(0,0)
 | y::ys=>if y.isPrefixOf t then (6,y.length) else Mv t ys
def Cb (t:List UInt8):Nat×Nat :=
 if Hb 2 t then (if Bz 30 t≤16∧Bz 26 t=Bz 30 t then (1,Bz 30 t) else (0,0))
 else if Hb 4 t then (if Bz 30 t=3∧Bz 4 t=Bz 30 t then (2,Bz 30 t) else (0,0))
 else if Hb 8 t then F0 t
 else Mv t C9
abbrev Tok:=Nat×List UInt8×Nat
def GJ:Nat→Nat→List UInt8→List Tok
 | 0,_,_=>[]
 | n+1,o,t =>
   if t=[] then []
   else if (Cb t).1=0 then [(0,[],o)]
   else ((Cb t).1,t.take (Cb t).2,o) ::
     GJ n (o+(Cb t).2+EC (t.drop (Cb t).2)) ((t.drop (Cb t).2).drop (EC (t.drop (Cb t).2)))
def CJ (s:List UInt8):List Tok:=GJ s.length (EC s) (s.drop (EC s))
end LexS
namespace LexS
theorem Kw (m:Nat) (c:UInt8) (t:List UInt8):Bz m (c::t)=if cin m c then 1+Bz m t else 0:=by
 unfold Bz
 rw [List.takeWhile_cons]
 by_cases h:cin m c=true
 · simp [h];omega
 · simp [h]
theorem UY (m:Nat) (t:List UInt8):Hb m (t.drop (Bz m t))=false:=by
 induction t with
 | nil=>rfl
 | cons c t ih =>
   rw [Kw]
   by_cases h:cin m c=true
   · rw [if_pos h,Nat.add_comm,List.drop_succ_cons];exact ih
   · rw [if_neg h,List.drop_zero];simp [Hb,h]
theorem KB (m:Nat) (t:List UInt8):Bz m t≤t.length:=by
 unfold Bz;exact (List.takeWhile_prefix _).length_le
theorem T4 (t:List UInt8):FK false t=Bz 1 t+FK false (t.drop (Bz 1 t)):=by
 induction t with
 | nil=>rfl
 | cons c t ih =>
   rw [Kw]
   by_cases h:cin 1 c=true
   · rw [if_pos h,Nat.add_comm 1,List.drop_succ_cons,FK]
     simp only [h,Bool.false_eq_true,if_false,if_true]
     omega
   · rw [if_neg h];simp
theorem RC (t:List UInt8) (h:[47,47].isPrefixOf t=true):FK false t=FK true t:=by
 obtain ⟨u,rfl⟩:∃ u,t=47::47::u:=by
   obtain ⟨u,hu⟩:=List.isPrefixOf_iff_prefix.1 h
   exact ⟨u,by simpa using hu.symm⟩
 rw [FK]
 conv=>rhs;rw [FK]
 simp [cin,Lq]
theorem VA (t:List UInt8) (h1:Hb 1 t=false) (h:[47,47].isPrefixOf t=false):FK false t=0:=by
 cases t with
 | nil=>rfl
 | cons c t =>
   rw [FK]
   have h1':cin 1 c=false:=h1
   simp only [h1',Bool.false_eq_true,if_false]
   rw [if_neg]
   rintro ⟨rfl,h2⟩
   cases t with
   | nil=>simp at h2
   | cons d t=>simp at h2;subst h2;simp [List.isPrefixOf] at h
theorem VN (t:List UInt8):FK true (10::t)=FK false (10::t):=by
 rw [FK,FK];simp [cin,Lq]
theorem hN (c:UInt8) (t:List UInt8) (h:c≠10):FK true (c::t)=1+FK true t:=by
 rw [FK];simp [h]
theorem Yf (b:Bool) (t:List UInt8):FK b t≤t.length:=by
 induction t generalizing b with
 | nil=>simp [FK]
 | cons c t ih =>
   rw [FK]
   have h1:=ih true
   have h2:=ih false
   repeat' split
   all_goals simp only [List.length_cons];omega
theorem TM (t:List UInt8):EC t≤t.length:=Yf _ _
theorem ME (b a:List UInt8):b.isPrefixOf a=(a.take b.length == b):=by
 rw [Bool.eq_iff_iff,List.isPrefixOf_iff_prefix,List.prefix_iff_eq_take,beq_iff_eq]
 exact eq_comm
end LexS
namespace LexS
theorem VO (t:List UInt8) (ys:List (List UInt8)) (h:(Mv t ys).1≠0) (hy:∀ y∈ys,1≤y.length):1≤(Mv t ys).2∧(Mv t ys).2≤t.length:=by
 induction ys with
 | nil=>simp [Mv] at h
 | cons y ys ih =>
   rw [Mv] at h ⊢
   by_cases hp:y.isPrefixOf t=true
   · rw [if_pos hp]
     exact ⟨hy y (by simp),(List.isPrefixOf_iff_prefix.1 hp).length_le⟩
   · rw [if_neg hp] at h ⊢
     exact ih h (fun y' h'=>hy y' (by simp [h']))
theorem Oh (m:Nat) (t:List UInt8) (h:Hb m t=true):1≤Bz m t:=by
 cases t with
 | nil=>simp [Hb] at h
 | cons c t=>have h':cin m c=true:=h;rw [Kw,if_pos h'];omega
theorem Zd (c:UInt8) (m m':Nat) (h:cin m c=true) (hs:∀ k,k=0∨k=1∨k=2∨k=4∨k=8∨k=16→(k &&& m)≠0→(k &&& m')≠0):cin m' c=true:=by
 unfold cin at h ⊢
 rw [bne_iff_ne] at h ⊢
 refine hs _ ?_ h
 unfold Lq
 repeat (split;simp)
 simp
theorem TG (t:List UInt8) (m m':Nat) (h:Hb m t=true) (hs:∀ k,k=0∨k=1∨k=2∨k=4∨k=8∨k=16→(k &&& m)≠0→(k &&& m')≠0):Hb m' t=true:=by
 cases t with
 | nil=>simp [Hb] at h
 | cons c t=>exact Zd c m m' h hs
theorem aK (m:Nat) (t:List UInt8) (k:Nat) (h:Hb m (t.drop k)=true):k < t.length:=by
 rcases Nat.lt_or_ge k t.length with hk | hk
 · exact hk
 · rw [List.drop_eq_nil_of_le hk] at h;simp [Hb] at h
theorem Xf (t:List UInt8) (h8:Hb 8 t=true) (h:(F0 t).1≠0):1≤(F0 t).2∧(F0 t).2≤t.length:=by
 have hd:=Oh 8 t h8
 have hl:=KB 8 t
 unfold F0 at h ⊢
 simp only at h ⊢
 by_cases h1:GZ t=true
 · rw [if_pos h1] at h ⊢
   by_cases h2:free (t.drop 10)=true
   · rw [if_pos h2]
     have:10≤t.length:=by unfold GZ at h1;simp at h1;exact h1.1
     exact ⟨by simp,this⟩
   · rw [if_neg h2] at h;simp at h
 · rw [if_neg h1] at h ⊢
   by_cases h2:t.head?=some 48∧1 < Bz 8 t
   · rw [if_pos h2] at h;simp at h
   · rw [if_neg h2] at h ⊢
     by_cases h3:(t.drop (Bz 8 t)).head?=some 46
     · rw [if_pos h3] at h ⊢
       by_cases h4:10 < Bz 8 t∨Hb 8 (t.drop (Bz 8 t+1))=false∨Hb 8 (t.drop (Bz 8 t+2))=false
       · rw [if_pos h4] at h;simp at h
       · rw [if_neg h4] at h ⊢
         by_cases h5:free (t.drop (Bz 8 t+3))=true
         · rw [if_pos h5]
           have h6:Hb 8 (t.drop (Bz 8 t+2))=true:=by
             cases hh:Hb 8 (t.drop (Bz 8 t+2)) with
             | true=>rfl
             | false=>exact absurd (.inr (.inr hh)) h4
           have:=aK 8 t _ h6
           exact ⟨by simp,by simp only;omega⟩
         · rw [if_neg h5] at h;simp at h
     · rw [if_neg h3] at h ⊢
       by_cases h4:12 < Bz 8 t
       · rw [if_pos h4] at h;simp at h
       · rw [if_neg h4] at h ⊢
         by_cases h5:free (t.drop (Bz 8 t))=true
         · rw [if_pos h5];exact ⟨hd,hl⟩
         · rw [if_neg h5] at h;simp at h
theorem NE (t:List UInt8) (h:(Cb t).1≠0):1≤(Cb t).2∧(Cb t).2≤t.length:=by
 have hl:=KB 30 t
 unfold Cb at h ⊢
 by_cases h2:Hb 2 t=true
 · have hd:=Oh 30 t (TG t 2 30 h2 (by intro k hk;rcases hk with rfl | rfl | rfl | rfl | rfl | rfl<;>decide))
   rw [if_pos h2] at h ⊢
   by_cases hc:Bz 30 t≤16∧Bz 26 t=Bz 30 t
   · rw [if_pos hc];exact ⟨hd,hl⟩
   · rw [if_neg hc] at h;simp at h
 · rw [if_neg h2] at h ⊢
   by_cases h4:Hb 4 t=true
   · have hd:=Oh 30 t (TG t 4 30 h4 (by intro k hk;rcases hk with rfl | rfl | rfl | rfl | rfl | rfl<;>decide))
     rw [if_pos h4] at h ⊢
     by_cases hc:Bz 30 t=3∧Bz 4 t=Bz 30 t
     · rw [if_pos hc];exact ⟨hd,hl⟩
     · rw [if_neg hc] at h;simp at h
   · rw [if_neg h4] at h ⊢
     by_cases h8:Hb 8 t=true
     · rw [if_pos h8] at h ⊢;exact Xf t h8 h
     · rw [if_neg h8] at h ⊢;exact VO t C9 h (by decide)
def EA (s:List UInt8) (k:Nat):List Tok:=GJ (s.length - k) k (s.drop k)
theorem Mr (n m o:Nat) (t:List UInt8) (hn:t.length≤n) (hm:t.length≤m):GJ n o t=GJ m o t:=by
 induction n generalizing m o t with
 | zero =>
   have:t=[]:=by cases t with | nil=>rfl | cons c t=>simp at hn
   subst this
   cases m with
   | zero=>rfl
   | succ m=>simp [GJ]
 | succ n ih =>
   cases m with
   | zero =>
     have:t=[]:=by cases t with | nil=>rfl | cons c t=>simp at hm
     subst this;simp [GJ]
   | succ m =>
     rw [GJ,GJ]
     by_cases ht:t=[]
     · rw [if_pos ht,if_pos ht]
     · rw [if_neg ht,if_neg ht]
       by_cases hz:(Cb t).1=0
       · rw [if_pos hz,if_pos hz]
       · rw [if_neg hz,if_neg hz]
         have hp:=NE t hz
         refine congrArg _ (ih m _ _ ?_ ?_)
         · simp only [List.length_drop];omega
         · simp only [List.length_drop];omega
theorem Qu (s:List UInt8) (k:Nat) (h:s.length≤k):EA s k=[]:=by
 unfold EA
 rw [show s.length - k=0 from by omega];rfl
theorem Rm (s:List UInt8) (k:Nat) (h:k < s.length) (hz:(Cb (s.drop k)).1=0):EA s k=[(0,[],k)]:=by
 unfold EA
 obtain ⟨n,hn⟩:∃ n,s.length - k=n+1:=⟨s.length - k - 1,by omega⟩
 rw [hn,GJ,if_neg (by intro e;have:=congrArg List.length e;simp at this;omega),if_pos hz]
theorem Ra (s:List UInt8) (k:Nat) (h:k < s.length) (hz:(Cb (s.drop k)).1≠0) :
   EA s k=((Cb (s.drop k)).1,(s.drop k).take (Cb (s.drop k)).2,k)::EA s (k+(Cb (s.drop k)).2+EC (s.drop (k+(Cb (s.drop k)).2))):=by
 have hp:=NE _ hz
 rw [List.length_drop] at hp
 unfold EA
 obtain ⟨n,hn⟩:∃ n,s.length - k=n+1:=⟨s.length - k - 1,by omega⟩
 rw [hn,GJ,if_neg (by intro e;have:=congrArg List.length e;simp at this;omega),if_neg hz]
 refine congrArg _ ?_
 rw [List.drop_drop,List.drop_drop]
 refine Mr _ _ _ _ ?_ ?_
 · rw [List.length_drop];omega
 · rw [List.length_drop];omega
theorem Uy (s:List UInt8):CJ s=EA s (EC s):=by
 unfold CJ EA
 exact Mr _ _ _ _ (by rw [List.length_drop];omega) (by rw [List.length_drop];omega)
def Hv:List Tok→List Tok→List Tok×Nat×Nat
 | acc,[]=>(acc,0,0)
 | acc,x::r=>if acc.length=2000 then ([],2,x.2.2) else if x.1=0 then ([],61,x.2.2) else Hv (acc++[x]) r
def RB (s:List UInt8):List Tok×Nat×Nat:=if 6000 < s.length then ([],2,0) else Hv [] (CJ s)
def Rk (l:List Tok):Prop:=l.length≤2000∧∀ x∈l,x.1≠0
theorem Ml (acc q r:List Tok) (h:Rk (acc++q)):Hv acc (q++r)=Hv (acc++q) r:=by
 induction q generalizing acc with
 | nil=>simp
 | cons x q ih =>
   rw [List.cons_append,Hv]
   have h1:=h.1
   rw [List.length_append,List.length_cons] at h1
   rw [if_neg (by omega),if_neg (h.2 x (by simp))]
   have:=ih (acc++[x]) (by simpa using h)
   simpa using this
end LexS
namespace Go.Proofs.YtkfplcngmiljaaaGreatDoor
open Go.RowKit LexS
def Ds:Array Value:=(C9.map fun y=>Value.string ⟨y.toArray⟩).toArray
def Gx (w:World):Prop:=(∀ i,i < 128→w.cell? ⟨2,i,none⟩=some (.int .u8 (Lq i)))∧(∀ (j:Nat) v,Ds.toList[j]?=some v→w.cell? ⟨0,j,none⟩=some v)
theorem Gx.Lq {w:World} (h:Gx w) (i:Nat) (hi:i < 128):w.cell? ⟨2,i,none⟩=some (.int .u8 (Lq i)):=by
 exact h.1 i hi
theorem Gx.Ly {w w':World} (h:Gx w) (hk:w'.heap[(2:Nat)]?=w.heap[(2:Nat)]?∧w'.heap[(0:Nat)]?=w.heap[(0:Nat)]?):Gx w':=by
 refine ⟨fun i hi=>?_,fun j v hj=>?_⟩
 · rw [World.cell?_of_block (w:=w) hk.1];exact h.1 i hi
 · rw [World.cell?_of_block (w:=w) hk.2];exact h.2 j v hj
def TB (n:Nat):Prop:=2 < n∧0 < n
theorem TJ {w:World} {g i:Nat} {v:Value} (h:w.cell? ⟨g,i,none⟩=some v):g < w.heap.size:=by
 unfold World.cell? at h
 by_cases hg:g < w.heap.size
 · exact hg
 · rw [Array.getElem?_eq_none (by simpa using hg)] at h
   cases h
theorem Gx.tb {w:World} (h:Gx w):TB w.heap.size:=⟨TJ (h.1 0 (by decide)),TJ (h.2 0 _ rfl)⟩
theorem K2 {P:Program} {ops:Array Oper} {rest:List Oper} {o:Oper} {a:Act} {w:World} {Q:Exit→Act→World→Prop} (hgd:o.guard=none) (ty:TypeId) (x:Operand) (ho:o.op=.load ty x)
   (g:Nat) (hx:a.eval x=.pointer (some ⟨g,0,none⟩)) (cs:Array Value) (d:TypeDesc) (hg:∀ (j:Nat) v,cs.toList[j]?=some v→w.cell? ⟨g,j,none⟩=some v)
   (hu:P.underlying ty=some d) (hd:(match d with | .struct _ | .array _ _=>true | _=>false)=true) (hi:(P.info? ty).map (·.size)=some cs.size)
   (h:wpList P ops Q rest (a.put o.dst (.agg cs)) w):wpList P ops Q (o::rest) a w:=by
 have hl:(loadCells ⟨g,0,none⟩ cs.toList.length).run P w=.ok cs.toList.toArray w :=
   run_loadCells_list (P:=P) w ⟨g,0,none⟩ cs.toList (fun j v hv=>by
     have hadd:(⟨g,0,none⟩:Addr).add j=⟨g,j,none⟩:=by unfold Addr.add;split<;>simp_all
     rw [hadd];exact hg j v hv)
 have hrow:(loadVar ty ⟨g,0,none⟩).run P w=.ok (.agg cs) w:=by
   cases hq:P.info? ty with
   | none=>simp [hq] at hi
   | some i =>
     have hs:i.size=cs.size:=by simpa [hq] using hi
     have hagg:(isAgg ty).run P w=.ok true w:=by
       unfold isAgg
       rw [Sem.run_bind,run_underlying hu w]
       cases d<;>simp_all
     simp only [Array.length_toList,Array.toArray_toList] at hl
     simp [loadVar,Sem.run_bind,hagg,Go.sizeOf,typeInfo,hq,hs,hl]
 refine wpList_plain hgd fun _ hK=>?_
 unfold Oper.wp execOp
 simp only [ho,hx,Instr.loadAt,Instr.sureAddr,Sem.run_bind,Sem.run_pure,Result.andThen_ok,hrow]
 exact hK _ _ h
abbrev L (s:ByteArray):List UInt8:=s.data.toList
theorem IH (s:ByteArray) (k:Nat) (h:k < s.size):(L s).drop k=s[k]::(L s).drop (k+1):=by
 rw [List.drop_eq_getElem_cons (by simpa using h)];rfl
theorem NH (s:ByteArray) (k:Nat) (h:s.size≤k):(L s).drop k=[]:=by
 rw [List.drop_eq_nil_iff];simpa using h
def oX (m:Nat):Bool:=m == 1||m == 2||m == 4||m == 8||m == 26||m == 30
theorem VR (n:Nat):Lq n=0∨Lq n=1∨Lq n=2∨Lq n=4∨Lq n=8∨Lq n=16:=by
 unfold Lq;repeat (split;simp)
 simp
theorem YK (n:Nat) (h:128≤n):Lq n=0:=by
 unfold Lq
 rw [if_neg (by omega),if_neg (by omega),if_neg (by omega),if_neg (by omega),if_neg (by omega)]
theorem Xm (n m:Nat) (hm:oX m=true):(bits BinOp.and IntKind.u8 (Lq n:Int) (m:Int) != 0)=((Lq n &&& m) != 0):=by
 have hm':m=1∨m=2∨m=4∨m=8∨m=26∨m=30:=by simp [oX] at hm;omega
 rcases VR n with h | h | h | h | h | h<;>rw [h]<;>rcases hm' with rfl | rfl | rfl | rfl | rfl | rfl<;>decide
set_option maxHeartbeats 400000 in
theorem D1 (s:ByteArray) (a:Int) (m:Nat) (w:World) (hT:Gx w) (h0:0≤a) (hm:oX m=true) :
   Calls Tryz.prog 124 #[.string s,.int .i64 a,.int .u8 m] w fun e w'=>e=.returned (.bool (Hb m ((L s).drop a.toNat)))∧w=w':=by
 obtain ⟨k,rfl⟩:=Int.eq_ofNat_of_zero_le h0
 rw [Int.toNat_natCast]
 by_cases ha:k < s.size
 · have e1:Hb m ((L s).drop k)=cin m s[k]:=by rw [IH s k ha];rfl
   have E1:=Lib.hid e1
   clear e1
   have HM:=Lib.hid hm
   clear hm
   by_cases h128:(s[k].toNat:Int) < 128
   · have hc:=hT.Lq s[k].toNat (by omega)
     go_enter Tryz.func124,Tryz.ntmps124
     go_wp2
     go_ret
     refine ⟨?_,rfl⟩
     rw [E1.out]
     have:=Xm s[k].toNat m HM.out
     exact congrArg (fun b=>Ending.returned (.bool b)) this
   · have e2:cin m s[k]=false:=by unfold cin;rw [YK _ (by omega)];simp
     have E2:=Lib.hid e2
     clear e2
     go_enter Tryz.func124,Tryz.ntmps124
     go_wp2
     go_ret
     exact ⟨by rw [E1.out,E2.out];rfl,rfl⟩
 · have e1:Hb m ((L s).drop k)=false:=by rw [NH s k (by omega)];rfl
   have E1:=Lib.hid e1
   clear e1
   go_enter Tryz.func124,Tryz.ntmps124
   go_wp2
   go_ret
   exact ⟨by rw [E1.out];rfl,rfl⟩
theorem Rq (m:Nat) (s:ByteArray) (k:Nat) (h:Hb m ((L s).drop k)=true):k+Bz m ((L s).drop k)=k+1+Bz m ((L s).drop (k+1))∧k < s.size:=by
 by_cases hk:k < s.size
 · rw [IH s k hk] at h ⊢
   have h':cin m s[k]=true:=h
   refine ⟨?_,hk⟩
   unfold Bz
   rw [List.takeWhile_cons,if_pos h']
   simp;omega
 · rw [NH s k (by omega)] at h;simp [Hb] at h
theorem XC (m:Nat) (t:List UInt8) (h:Hb m t=false):Bz m t=0:=by
 cases t with
 | nil=>rfl
 | cons c t=>unfold Bz;rw [List.takeWhile_cons];have:cin m c=false:=h;simp [this]
set_option maxHeartbeats 400000 in
theorem Il (s:ByteArray) (a:Int) (m:Nat) (w:World) (hs:s.size≤9223372036854775806) (hT:Gx w) (h0:0≤a) (hm:oX m=true) :
   Calls Tryz.prog 122 #[.string s,.int .i64 a,.int .u8 m] w fun e w'=>e=.returned (.int .i64 (a+Bz m ((L s).drop a.toNat):Int))∧w=w':=by
 obtain ⟨k0,rfl⟩:=Int.eq_ofNat_of_zero_le h0
 rw [Int.toNat_natCast]
 have HM:=Lib.hid hm
 clear hm
 go_enter Tryz.func122,Tryz.ntmps122
 go_wp2_with fail
 go_loop [1] (fun i=>∃ k:Nat,Hid (k+Bz m ((L s).drop k)=k0+Bz m ((L s).drop k0))∧i=.int .i64 k) (fun i=>s.size - (intOf i).toNat)
 case atStart=>exact ⟨k0,Lib.hid rfl,rfl⟩
 case round =>
   obtain ⟨k,HK,rfl⟩:=hrel
   cases hb:Hb m ((L s).drop k) with
   | true =>
     obtain ⟨e1,hlt⟩:=Rq m s k hb
     have E1:=Lib.hid e1
     clear e1
     have HB:=Lib.hid hb
     clear hb
     go_wp2_with fail
     refine (D1 s _ m _ hT (by omega) HM.out).mono ?_
     rintro e w' ⟨rfl,rfl⟩
     rw [Int.toNat_natCast,HB.out]
     go_wp2_with fail
     go_round
     case rel=>exact ⟨k+1,Lib.hid (by rw [← HK.out,E1.out]),by go_num⟩
     case measure=>simp [intOf];omega
   | false =>
     have HB:=Lib.hid hb
     clear hb
     go_wp2_with fail
     refine (D1 s _ m _ hT (by omega) HM.out).mono ?_
     rintro e w' ⟨rfl,rfl⟩
     rw [Int.toNat_natCast,HB.out]
     go_wp2_with fail
     go_ret
     refine ⟨?_,rfl⟩
     have h1:=HK.out
     rw [XC m _ HB.out] at h1
     exact congrArg (fun n:Int=>Ending.returned (.int .i64 n)) (by omega)
end Go.Proofs.YtkfplcngmiljaaaGreatDoor
