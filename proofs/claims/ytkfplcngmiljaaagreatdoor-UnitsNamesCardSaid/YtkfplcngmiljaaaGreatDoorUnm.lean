/- Part of a proof: see the last text. -/
import Derived.Test.YtkfplcngmiljaaaGreatDoorUnl
set_option linter.unusedVariables false
set_option linter.unusedSimpArgs false
namespace Go.Proofs.YtkfplcngmiljaaaGreatDoor
open AI Go
namespace Mo
set_option maxRecDepth 100000
set_option maxHeartbeats 4000000
def UC (s:ByteArray):Prop:=s.data.toList.length=3∧∀ c∈s.data.toList,65≤c.toNat∧c.toNat≤90
def FH (s:ByteArray):Prop:=s=A3∨s=By∨s=Cm∨UC s
def Qu (c:UInt8):Prop:=(97≤c.toNat∧c.toNat≤122)∨(48≤c.toNat∧c.toNat≤57)∨c.toNat=95
def Tg:List ByteArray:=[Q5,QS,Jj,V4,QE,Q0,oQ,Ni,QO,KN,KY,A3,By,Cm,WS,Qe,KW,M0,QY,Sl,IK,V7,Tl,QU,Np,Wm,EA,NY,Ht,JZ,GP,D8,MW]
def Fw (s:ByteArray):Prop:=(1≤s.data.toList.length∧s.data.toList.length≤16)∧(∃ b,s.data.toList[0]?=some b∧97≤b.toNat∧b.toNat≤122)∧s∉Tg∧∀ c∈s.data.toList,Qu c
theorem En {n:Nd} (h:CX n):n.tab.ps.length≤9223372036854775807∧n.kids.length≤9223372036854775807∧∀ k∈n.kids,CX k:=by
 obtain ⟨a,b,c⟩:=(LP n).1 h
 exact ⟨a.1,b,c⟩
theorem Ly {α:Type} {l:List α} {P:α→Prop}:(∀ (i:Nat) (y:α),l[i]?=some y→P y)↔∀ y∈l,P y :=
 ⟨fun h y hy=>(List.getElem?_of_mem hy).elim fun i hi=>h i y hi,fun h i y hi=>h y (List.mem_of_getElem? hi)⟩
theorem tG (s:ByteArray):E6 s=some (mb (s∈Tg)):=by
 rw [E6]
 simp only [Cn,Bs,F9,cX]
 refine JN ?_
 simp only [Tg,List.mem_cons,List.not_mem_nil,or_false]
theorem gM (s:ByteArray):s=ByteArray.empty↔s.data.toList.length=0:=by
 constructor
 · intro h;rw [h];rfl
 · intro h
   apply ByteArray.ext
   apply Array.ext'
   rw [List.eq_nil_of_length_eq_zero h];rfl
theorem Vx (s:ByteArray):Cg s=some (mb (Fw s)):=by
 rw [Cg]
 simp only [Cn,Ej,Bs,tG,Option.bind_some]
 unfold Fw
 by_cases h0:s=ByteArray.empty
 · rw [Ag h0];exact GK fun h=>by have:=(gM s).1 h0;omega
 have h1:s.data.toList.length≠0:=fun h=>h0 ((gM s).2 h)
 rw [Af h0]
 by_cases h2:16 < ((s.data.toList.length:Nat):Int)
 · rw [Ag h2];exact GK fun h=>by omega
 rw [Af h2]
 obtain ⟨b,hb⟩:∃ b,s.data.toList[0]?=some b:=⟨_,List.getElem?_eq_getElem (by omega)⟩
 rw [hb,GR (v:=false) (P:=fun _ y=>Qu y) (by omega) (fun i y _=>by
   simp only [Es,Ej,Bk,Bs,R3,X0,TR,lO,W6,u6,tT]
   congr 2
   unfold Qu
   apply propext
   omega)]
 simp only [Option.bind_some,F9,dS,Ly]
 refine JN ?_
 constructor
 · rintro ⟨h3,h4,h5,h6⟩
   exact ⟨by omega,⟨b,rfl,by omega⟩,h5,h6⟩
 · rintro ⟨h3,⟨c,hc,h4⟩,h5,h6⟩
   cases hc
   exact ⟨by omega,by omega,h5,h6⟩
theorem lJ (s:ByteArray):D4 s=some (mb (UC s)):=by
 rw [D4,Bk,Bs]
 unfold UC
 by_cases h:((s.data.toList.length:Nat):Int)=3
 · rw [Ag h,GR (v:=false) (P:=fun _ y=>65≤y.toNat∧y.toNat≤90) (by omega) (fun i y _=>by
     simp only [EO,Ej,Bs,TR,W6]
     congr 2;apply propext;omega),F9,Ly]
   exact JN ⟨fun h2=>⟨by omega,h2⟩,fun h2=>h2.2⟩
 · rw [Af h];exact GK fun h2=>h (by omega)
theorem VJ (s:ByteArray):CE s=some (mb (FH s)):=by
 rw [CE]
 simp only [Cn,Bs,lJ,Option.bind_some,cX]
 rfl
def EK (n:Int):Prop:=1≤n∧n≤1000000
theorem L1 (n:Int):BY n=some (mb (EK n)):=by
 rw [BY]
 simp only [FD,Bs,F9,D6]
 rfl
def VU (n:Int):Prop:=0≤n∧n≤36524
def PG (s:ByteArray):Prop:=s=EA∨s=NY∨s=Ht∨s=JZ
theorem YH (s:ByteArray):Dm s=some (mb (PG s)):=by
 rw [Dm]
 simp only [Cn,Bs,F9,cX]
 rfl
theorem YF (a b:List Pc) (ha:a.length≤9223372036854775807):Gz a b=some (mb (a=b)):=by
 rw [Gz,Bk,Bs]
 by_cases h:((a.length:Nat):Int)=((b.length:Nat):Int)
 · rw [Ag h,GR (v:=false) (P:=fun i y=>b[i]?=some y) ha (fun i y hy=>by
     have hi:i < a.length:=(List.getElem?_eq_some_iff.1 hy).1
     have hb:b[i]?=some b[i]:=List.getElem?_eq_getElem (by omega)
     simp only [G5]
     rw [hb]
     simp only [Option.bind_some]
     have hs:Nh y b[i]=mb (b[i]?=some y):=by
       rw [Bool.eq_iff_iff,Bj,hb]
       unfold Nh
       simp only [Bool.and_eq_true,JU,beq_iff_eq,Option.some.injEq]
       generalize b[i]=z
       cases y;cases z
       simp only [Pc.mk.injEq]
       grind
     rw [hs,Bs,R3,hb]),F9]
   refine JN ⟨fun h2=>?_,fun h2 i y hy=>by rw [← h2];exact hy⟩
   apply List.ext_getElem?
   intro i
   by_cases hi:i < a.length
   · rw [List.getElem?_eq_getElem hi,h2 i _ (List.getElem?_eq_getElem hi)]
   · rw [List.getElem?_eq_none (by omega),List.getElem?_eq_none (by omega)]
 · rw [Af h];exact GK fun h2=>h (by rw [h2])
def CZ (n f:Nd):Prop:=n.name=f.name∧n.unit=f.unit∧n.n=f.n∧n.fr=f.fr∧n.to=f.to∧n.known=f.known∧n.tab.den=f.tab.den∧n.tab.ps=f.tab.ps
theorem Pq (n f:Nd) (h:n.tab.ps.length≤9223372036854775807):A6 n f=some (mb (CZ n f)):=by
 rw [A6,YF _ _ h]
 simp only [Cn,Bk,Bs,Option.bind_some,D6]
 rfl
end Mo
end Go.Proofs.YtkfplcngmiljaaaGreatDoor
namespace Go.Proofs.YtkfplcngmiljaaaGreatDoor
open AI Go
namespace Mo
set_option maxRecDepth 100000
set_option maxHeartbeats 4000000
theorem UA {p:Prop} (h:¬ p):mb p=false:=by rw [NH];exact h
def Out (r:Option (Bool×Int)) (P:Prop) (t:Int):Prop:=∃ z,r=some (mb P,z)∧(P→z=t)
theorem Out.congr {r:Option (Bool×Int)} {P Q:Prop} {t u:Int} (h:Out r P t) (hp:P↔Q) (ht:Q→t=u):Out r Q u:=by
 obtain ⟨z,h1,h2⟩:=h
 exact ⟨z,by rw [h1,FI hp],fun q=>(h2 (hp.2 q)).trans (ht q)⟩
theorem FE {Q:Prop} {z u:Int} (h:¬ Q):Out (some (false,z)) Q u:=⟨z,by rw [UA h],fun q=>absurd q h⟩
theorem LU {P Q:Prop} {u:Int} (h:P↔Q):Out (some (mb P,u)) Q u:=⟨u,by rw [FI h],fun _=>rfl⟩
theorem D0 {p Q:Prop} {A:Option (Bool×Int)} {z u:Int} (h:p→Out A Q u) (hq:Q→p):Out (AO p A (some (false,z))) Q u:=by
 by_cases hp:p
 · rw [Ag hp];exact h hp
 · rw [Af hp];exact FE fun q=>hp (hq q)
theorem Te {p Q:Prop} {A:Option (Bool×Int)} {z u:Int} (h:¬ p→Out A Q u) (hq:Q→¬ p):Out (AO p (some (false,z)) A) Q u:=by
 by_cases hp:p
 · rw [Ag hp];exact FE fun q=>hq q hp
 · rw [Af hp];exact h hp
mutual
def Dp:Nd→Nat
 | ⟨_,_,_,_,_,_,_,_,kids,_⟩=>1+G6 kids
def G6:List Nd→Nat
 | []=>0
 | k::ks=>Dp k+G6 ks
end
mutual
def JC:Nd→Nat
 | ⟨_,_,_,_,_,_,_,_,kids,_⟩=>1+Vm kids
def Vm:List Nd→Nat
 | []=>0
 | k::ks=>max (JC k) (Vm ks)
end
theorem Cf (n:Nd):Dp n=1+G6 n.kids:=by cases n;rw [Dp]
theorem IY (n:Nd):JC n=1+Vm n.kids:=by cases n;rw [JC]
theorem Oq {l:List Nd} {m:Nat}:Vm l≤m↔∀ k∈l,JC k≤m:=by
 induction l with
 | nil=>simp [Vm]
 | cons a l ih=>simp only [Vm,Nat.max_le,ih,List.mem_cons,forall_eq_or_imp]
theorem EP {l:List Nd} {k:Nd} (h:k∈l):Dp k≤G6 l:=by
 induction l with
 | nil=>cases h
 | cons a l ih =>
   rw [G6]
   rcases List.mem_cons.1 h with rfl | h
   · omega
   · have:=ih h;omega
theorem N7 (l:List Nd):l.length≤G6 l:=by
 induction l with
 | nil=>simp [G6]
 | cons a l ih=>rw [G6,Cf];simp only [List.length_cons];omega
theorem MM {n k:Nd} (h:k∈n.kids):Dp k < Dp n:=by rw [Cf n];have:=EP h;omega
theorem Kl {g:Ck→Nd→Int→Option (Bool×Int)} {p:Nd→Prop} {d:Int}:∀ {l:List Nd} {i:Nat} {c:Int},0≤c→c≤2000→(∀ k∈l,∀ c:Int,0≤c→c≤2000→Out (g ⟨c⟩ k d) (p k∧c+Dp k≤2000∧d+JC k≤41) (c+Dp k)) →
   Out ((AT (δ:=Int) (ρ:=Bool×Int) (fun _ y (x:Int)=>(g ⟨x⟩ y d).bind fun (y1a,y1b)=>cond y1a (some (.nx y1b)) (some (.rt (false,y1b)))) (fun x=>x) l i c).bind (GF (fun (w:Int)=>some (true,w)) (fun v=>some v)))
     ((∀ k∈l,p k∧d+JC k≤41)∧c+G6 l≤2000) (c+G6 l)
 | [],i,c,h0,h1,_=>⟨c,by rw [Bj.2 ⟨fun k hk=>(by cases hk),by simp only [G6];omega⟩];rfl,fun _=>by simp [G6]⟩
 | y::l,i,c,h0,h1,hg=>by
   obtain ⟨z,hz,h2⟩:=hg y (by simp) c h0 h1
   rw [AT,hz]
   simp only [Option.bind_some]
   by_cases hp:p y∧c+Dp y≤2000∧d+JC y≤41
   · rw [Bj.2 hp,h2 hp]
     show Out ((AT _ _ l (i+1) (c+Dp y)).bind _) _ _
     refine (Kl (l:=l) (i:=i+1) (c:=c+Dp y) (by omega) hp.2.1 fun k hk=>hg k (by simp [hk])).congr ?_ ?_
     · rw [G6]
       simp only [List.mem_cons,forall_eq_or_imp,Int.natCast_add]
       constructor
       · rintro ⟨a,b⟩;exact ⟨⟨⟨hp.1,hp.2.2⟩,a⟩,by omega⟩
       · rintro ⟨⟨_,a⟩,b⟩;exact ⟨a,by omega⟩
     · intro _;rw [G6];omega
   · rw [UA hp]
     refine ⟨z,?_,fun q=>?_⟩
     · show some (false,z)=_
       rw [UA]
       rintro ⟨a,b⟩
       rw [G6] at b
       have:=a y (by simp)
       exact hp ⟨this.1,by omega,this.2⟩
     · exfalso
       obtain ⟨a,b⟩:=q
       rw [G6] at b
       have:=a y (by simp)
       exact hp ⟨this.1,by omega,this.2⟩
theorem Ot (n:Nd) {c d:Int} (h0:0≤c) (h1:c≤2000):Out (Bf ⟨c⟩ n d) (c+1≤2000∧d≤40) (c+1):=by
 rw [Bf,C0 (by show _≤c+1∧c+1≤_;omega)]
 simp only [FD,Bs,Option.bind_some]
 by_cases h:c+1≤2000
 · rw [Ag h];exact LU ⟨fun a=>⟨h,a⟩,fun a=>a.2⟩
 · rw [Af h];exact FE fun a=>h a.1
def MC (f:Fn) (i:Nat) (p:Pc):Prop:=p.fr≤999999999999∧(∀ q,0 < i→f.ps[i - 1]?=some q→q.fr < p.fr)∧PT p.att f.den=some 0∧p.att≤P5 999999999999 f.den∧P5 (-999999999999) f.den≤p.att∧p.slope≤1000000∧-1000000≤p.slope
def Us (f:Fn):Prop:=EK f.den∧(1≤f.ps.length∧f.ps.length≤64)∧(∀ x,f.ps[0]?=some x→x.fr=0)∧∀ (i:Nat) p,f.ps[i]?=some p→MC f i p
theorem qU (f:Fn) (hl:f.ps.length≤9223372036854775807):Dx f=some (mb (Us f)):=by
 rw [Dx,L1]
 simp only [Option.bind_some,Bs,Ej,Bk]
 unfold Us
 by_cases hr:EK f.den
 rotate_left
 · rw [Af hr];exact GK fun h=>hr h.1
 rw [Ag hr]
 by_cases h1:((f.ps.length:Nat):Int) < 1
 · rw [Ag h1];exact GK fun h=>by omega
 rw [Af h1]
 by_cases h2:64 < ((f.ps.length:Nat):Int)
 · rw [Ag h2];exact GK fun h=>by omega
 rw [Af h2]
 have hx0:f.ps[0]?=some f.ps[0]:=List.getElem?_eq_getElem (by omega)
 rw [hx0]
 simp only [Option.bind_some]
 by_cases h3:f.ps[0].fr=0
 rotate_left
 · rw [Af h3];exact GK fun h=>h3 (h.2.2.1 _ rfl)
 rw [Ag h3]
 have hden:f.den≠0:=by unfold EK at hr;omega
 rw [GR (v:=false) (P:=fun i y=>MC f i y) hl (fun i y hy=>by
   have hi:i < f.ps.length:=(List.getElem?_eq_some_iff.1 hy).1
   simp only [D1,Ej,Bs,FD,Bk]
   have hd:∃ z,PT y.att f.den=some z:=by unfold PT;rw [if_neg hden];exact ⟨_,rfl⟩
   obtain ⟨z,hz⟩:=hd
   unfold MC
   rw [hz]
   by_cases h0:(0:Int) < ((i:Nat):Int)
   · rw [Ag h0,Mg (by omega)]
     have hq:f.ps[i - 1]?=some f.ps[i - 1]:=List.getElem?_eq_getElem (by omega)
     have hg:RZ f.ps (((i:Nat):Int) - 1)=some f.ps[i - 1]:=by
       unfold RZ
       rw [show (((i:Nat):Int) - 1).toNat=i - 1 by omega]
       simp only [hq]
       first | rfl | (rw [if_pos (by omega)])
     rw [hg,hq]
     simp only [Option.bind_some,TR,W6,X0,lO]
     congr 2
     apply propext
     simp only [Option.some.injEq,forall_eq']
     grind
   · rw [Af h0]
     simp only [Option.bind_some,TR,W6,X0,lO]
     congr 2
     apply propext
     simp only [Option.some.injEq]
     have:¬ 0 < i:=by omega
     grind),F9]
 refine JN ⟨fun h=>⟨hr,by omega,fun x hx=>by cases hx;exact h3,h⟩,fun h=>h.2.2.2⟩
def P2 (s:ByteArray):Prop:=s=Jm∨s=Sl∨s=IK∨s=IF∨s=Is∨s=PQ∨s=Iu∨s=K6∨s=H7∨s=O7∨s=Tl
def Ke (k:Nd):Prop:=k.kind=11∧k.unit=By∧EK k.n
def LL (n:Nd):Prop :=
 (n.kind=11∧FH n.unit∧0≤n.n∧n.n≤999999999999∧(n.unit=A3→n.n≤1)∧n.kids.length=0∧CZ n ⟨0,ByteArray.empty,n.unit,n.n,0,0,0,⟨0,[]⟩,[],0⟩) ∨
 (n.kind=12∧Fw n.name∧n.kids.length=0∧CZ n ⟨0,n.name,ByteArray.empty,0,0,0,0,⟨0,[]⟩,[],0⟩) ∨
 (n.kind=13∧EK n.n∧n.kids.length=0∧CZ n ⟨0,ByteArray.empty,ByteArray.empty,n.n,0,0,0,⟨0,[]⟩,[],0⟩) ∨
 (n.kind=14∧PG n.name∧n.kids.length=0∧CZ n ⟨0,n.name,ByteArray.empty,0,0,0,0,⟨0,[]⟩,[],0⟩) ∨
 (n.kind=15∧n.kids.length=1∧CZ n ⟨0,ByteArray.empty,ByteArray.empty,0,0,0,0,⟨0,[]⟩,[],0⟩) ∨
 (n.kind=16∧CZ n ⟨0,n.name,ByteArray.empty,0,0,0,0,⟨0,[]⟩,[],0⟩∧n.kids.length=2∧P2 n.name∧(n.name=Jm→∀ k,n.kids[1]?=some k→Ke k)) ∨
 (n.kind=17∧(n.name=GP∨n.name=D8)∧CZ n ⟨0,n.name,ByteArray.empty,0,0,0,0,⟨0,[]⟩,[],0⟩∧2≤n.kids.length) ∨
 (n.kind=18∧CZ n ⟨0,ByteArray.empty,ByteArray.empty,0,0,0,0,n.tab,[],0⟩∧Us n.tab∧n.kids.length=1)
mutual
def J3:Nd→Prop
 | ⟨kind,name,unit,n,fr,to,known,tab,kids,att⟩=>LL ⟨kind,name,unit,n,fr,to,known,tab,kids,att⟩∧ZL kids
def ZL:List Nd→Prop
 | []=>True
 | k::ks=>J3 k∧ZL ks
end
theorem ZF {l:List Nd}:ZL l↔∀ k∈l,J3 k:=by
 induction l with
 | nil=>simp [ZL]
 | cons k l ih=>simp [ZL,ih]
theorem KS (n:Nd):J3 n↔LL n∧∀ k∈n.kids,J3 k:=by cases n;rw [J3,ZF]
end Mo
end Go.Proofs.YtkfplcngmiljaaaGreatDoor
namespace Go.Proofs.YtkfplcngmiljaaaGreatDoor
open AI Go
namespace Mo
set_option maxRecDepth 100000
set_option maxHeartbeats 4000000
theorem Hb {r:Option (Bool×Int)} {P Q:Prop} {t u:Int} {f:Bool×Int→Option (Bool×Int)} (h:Out r P t) (hT:P→Out (f (true,t)) Q u) (hF:∀ z,¬ P→Out (f (false,z)) Q u):Out (r.bind f) Q u:=by
 obtain ⟨z,rfl,h2⟩:=h
 by_cases hp:P
 · rw [Bj.2 hp,h2 hp];exact hT hp
 · rw [UA hp];exact hF z hp
theorem jD {Q:Prop} {t u:Int} (hq:Q) (h:t=u):Out (some (true,t)) Q u:=⟨t,by rw [Bj.2 hq],fun _=>h⟩
theorem Hc {r:Option (Bool×Int)} {P Q:Prop} {t u:Int} (h:Out r P t) (hp:P↔Q) (ht:P→t=u):Out (r.bind fun (a,b)=>some (a,b)) Q u :=
 Hb h (fun p=>jD (hp.1 p) (ht p)) fun _ p=>FE fun q=>p (hp.2 q)
section
variable {p q r:Prop} {z:Int}
theorem RS:AO p (some (mb q,z)) (some (false,z))=some (mb (p∧q),z):=by
 by_cases h:p
 · rw [Ag h];congr 2;exact FI ⟨fun a=>⟨h,a⟩,fun a=>a.2⟩
 · rw [Af h,UA];exact fun a=>h a.1
theorem Ub:AO p (some (false,z)) (some (mb q,z))=some (mb (¬ p∧q),z):=by
 by_cases h:p
 · rw [Ag h,UA];exact fun a=>a.1 h
 · rw [Af h];congr 2;exact FI ⟨fun a=>⟨h,a⟩,fun a=>a.2⟩
theorem W7:AO p (some (mb q,z)) (some (mb r,z))=some (mb ((p→q)∧(¬ p→r)),z):=by
 by_cases h:p
 · rw [Ag h];congr 2;exact FI ⟨fun a=>⟨fun _=>a,fun b=>absurd h b⟩,fun a=>a.1 h⟩
 · rw [Af h];congr 2;exact FI ⟨fun a=>⟨fun b=>absurd b h,fun _=>a⟩,fun a=>a.2 h⟩
end
section
variable {n:Nd}
theorem VW (h:n.kind=11):LL n↔FH n.unit∧0≤n.n∧n.n≤999999999999∧(n.unit=A3→n.n≤1)∧n.kids.length=0∧CZ n ⟨0,ByteArray.empty,n.unit,n.n,0,0,0,⟨0,[]⟩,[],0⟩:=by unfold LL;simp [h]
theorem bG (h:n.kind=12):LL n↔Fw n.name∧n.kids.length=0∧CZ n ⟨0,n.name,ByteArray.empty,0,0,0,0,⟨0,[]⟩,[],0⟩:=by unfold LL;simp [h]
theorem aY (h:n.kind=13):LL n↔EK n.n∧n.kids.length=0∧CZ n ⟨0,ByteArray.empty,ByteArray.empty,n.n,0,0,0,⟨0,[]⟩,[],0⟩:=by unfold LL;simp [h]
theorem gA (h:n.kind=14):LL n↔PG n.name∧n.kids.length=0∧CZ n ⟨0,n.name,ByteArray.empty,0,0,0,0,⟨0,[]⟩,[],0⟩:=by unfold LL;simp [h]
theorem ZM (h:n.kind=15):LL n↔n.kids.length=1∧CZ n ⟨0,ByteArray.empty,ByteArray.empty,0,0,0,0,⟨0,[]⟩,[],0⟩:=by unfold LL;simp [h]
theorem XJ (h:n.kind=16):LL n↔CZ n ⟨0,n.name,ByteArray.empty,0,0,0,0,⟨0,[]⟩,[],0⟩∧n.kids.length=2∧P2 n.name∧(n.name=Jm→∀ k,n.kids[1]?=some k→Ke k):=by unfold LL;simp [h]
theorem ZI (h:n.kind=17):LL n↔(n.name=GP∨n.name=D8)∧CZ n ⟨0,n.name,ByteArray.empty,0,0,0,0,⟨0,[]⟩,[],0⟩∧2≤n.kids.length:=by unfold LL;simp [h]
theorem ZR (h:n.kind=18):LL n↔CZ n ⟨0,ByteArray.empty,ByteArray.empty,0,0,0,0,n.tab,[],0⟩∧Us n.tab∧n.kids.length=1:=by unfold LL;simp [h]
theorem Oj (h:LL n):n.kind=11∨n.kind=12∨n.kind=13∨n.kind=14∨n.kind=15∨n.kind=16∨n.kind=17∨n.kind=18:=by
 unfold LL at h
 rcases h with h | h | h | h | h | h | h | h
 all_goals
   have:=h.1
   simp [this]
end
def IP (l:List Nd) (c d:Int):Prop:=(∀ k∈l,J3 k∧d+JC k≤41)∧c+G6 l≤2000
theorem iF {l:List Nd} {c d:Int} (h:l.length=0) (hc:c≤2000):IP l c d∧c=c+G6 l:=by
 obtain rfl:=List.eq_nil_of_length_eq_zero h
 exact ⟨⟨(fun k hk=>(by cases hk)),(by simp only [G6];omega)⟩,(by simp [G6])⟩
theorem jA {x:Nd} {c d:Int}:IP [x] c d↔J3 x∧c+Dp x≤2000∧d+JC x≤41:=by
 unfold IP
 simp only [List.mem_singleton,forall_eq,G6,Nat.add_zero]
 exact ⟨fun a=>⟨a.1.1,a.2,a.1.2⟩,fun a=>⟨⟨a.1,a.2.2⟩,a.2.1⟩⟩
theorem SU {x y:Nd} {c d:Int}:IP [x,y] c d↔(J3 x∧c+Dp x≤2000∧d+JC x≤41)∧J3 y∧c+Dp x+Dp y≤2000∧d+JC y≤41:=by
 unfold IP
 simp only [List.mem_cons,List.not_mem_nil,or_false,forall_eq_or_imp,forall_eq,G6,Nat.add_zero,Int.natCast_add]
 constructor
 · rintro ⟨⟨⟨a,b⟩,c',d'⟩,e⟩;exact ⟨⟨a,by omega,b⟩,c',by omega,d'⟩
 · rintro ⟨⟨a,b,c'⟩,d',e,f⟩;exact ⟨⟨⟨a,c'⟩,d',f⟩,by omega⟩
abbrev pN (g:Ck→Nd→Int→Option (Bool×Int)) (n:Nd):Prop:=∀ (c d:Int),0≤c→c≤2000→0≤d→d≤41→Out (g ⟨c⟩ n d) (J3 n∧c+Dp n≤2000∧d+JC n≤41) (c+Dp n)
theorem QH {g:Ck→Nd→Int→Option (Bool×Int)} {b a:Ck→Nd→Int→Option (Bool×Int)} {l:Ck→List Nd→Int→Option (Bool×Int)} {n:Nd} (h:pN g n) {c d:Int} (h0:0≤c) (h1:c≤2000) (h2:0≤d) (h3:d≤41) :
   Out (BB g b a l ⟨c⟩ n d) ((J3 n∧Ke n)∧c+Dp n≤2000∧d+JC n≤41) (c+Dp n):=by
 rw [BB]
 simp only [Bk,Cn,Bs,L1,Option.bind_some]
 refine Hb (h c d h0 h1 h2 h3) (fun hp=>?_) fun z hp=>FE fun q=>hp ⟨q.1.1,q.2⟩
 show Out (AO (n.kind=11) (AO (n.unit=By) (some (mb (EK n.n),c+Dp n)) (some (false,c+Dp n))) (some (false,c+Dp n))) _ _
 rw [RS,RS]
 exact LU ⟨fun a=>⟨⟨hp.1,a⟩,hp.2⟩,fun a=>a.1.2⟩
theorem W2 {g n':Ck→Nd→Int→Option (Bool×Int)} {b:Ck→Nd→Int→Option (Bool×Int)} {l:Ck→List Nd→Int→Option (Bool×Int)} {n:Nd} (hg:∀ k∈n.kids,pN g k)
   (hn:∀ k∈n.kids,∀ c d:Int,0≤c→c≤2000→0≤d→d≤41→Out (n' ⟨c⟩ k d) ((J3 k∧Ke k)∧c+Dp k≤2000∧d+JC k≤41) (c+Dp k)) {c d:Int} (h0:0≤c) (h1:c≤2000) (h2:0≤d) (h3:d≤40) :
   Out (Bz g b n' l ⟨c⟩ n d) ((n.kids.length=2∧P2 n.name∧(n.name=Jm→∀ k,n.kids[1]?=some k→Ke k))∧IP n.kids c (d+1)) (c+G6 n.kids):=by
 rw [Bz,C0 (by omega)]
 simp only [Bk,Cn,Bs]
 generalize hl:n.kids=ks at *
 by_cases hlen:((ks.length:Nat):Int)=2
 rotate_left
 · rw [Af hlen];exact FE fun q=>hlen (by have:=q.1.1;omega)
 rw [Ag hlen]
 match ks,hlen with
 | [x,y],_ =>
 simp only [List.getElem?_cons_zero,List.getElem?_cons_succ,Option.bind_some]
 refine Hb (hg x (by simp) c (d+1) h0 h1 (by omega) (by omega)) (fun hx=>?_) fun z hx=>FE fun q=>hx (SU.1 q.2).1
 dsimp only
 rw [cond_true]
 have hsz:G6 [x,y]=Dp x+Dp y:=by simp [G6]
 have hy:=fun hc=>hg y (by simp) (c+Dp x) (d+1) (by omega) hc (by omega) (by omega)
 have hn':=fun hc=>hn y (by simp) (c+Dp x) (d+1) (by omega) hc (by omega) (by omega)
 have hy:=hy hx.2.1
 have hn':=hn' hx.2.1
 by_cases hs:n.name=Jm
 · rw [Ag hs]
   refine Hc hn' ⟨fun a=>⟨⟨rfl,.inl hs,fun _ k hk=>by cases hk;exact a.1.2⟩,SU.2 ⟨hx,a.1.1,a.2⟩⟩,fun a=>?_⟩ (fun a=>by rw [hsz];omega)
   have:=(SU.1 a.2).2
   exact ⟨⟨this.1,a.1.2.2 hs y rfl⟩,this.2⟩
 · rw [Af hs]
   have fin:∀ hop:P2 n.name,Out ((g ⟨c+Dp x⟩ y (d+1)).bind fun (a,b)=>some (a,b)) ((([x,y]:List Nd).length=2∧P2 n.name∧(n.name=Jm→∀ k,some y=some k→Ke k))∧IP [x,y] c (d+1)) (c+G6 [x,y]):=fun hop =>
     Hc hy ⟨fun a=>⟨⟨rfl,hop,fun e=>absurd e hs⟩,SU.2 ⟨hx,a⟩⟩,fun a=>(SU.1 a.2).2⟩ (fun a=>by rw [hsz];omega)
   have step:∀ {s:ByteArray} {A:Option (Bool×Int)},(n.name=s→P2 n.name)→(n.name≠s→Out A ((([x,y]:List Nd).length=2∧P2 n.name∧(n.name=Jm→∀ k,some y=some k→Ke k))∧IP [x,y] c (d+1)) (c+G6 [x,y])) →
       Out (AO (n.name=s) ((g ⟨c+Dp x⟩ y (d+1)).bind fun (a,b)=>some (a,b)) A) ((([x,y]:List Nd).length=2∧P2 n.name∧(n.name=Jm→∀ k,some y=some k→Ke k))∧IP [x,y] c (d+1)) (c+G6 [x,y]):=by
     intro s A h4 h5
     by_cases h:n.name=s
     · rw [Ag h];exact fin (h4 h)
     · rw [Af h];exact h5 h
   refine step (fun e=>by unfold P2;simp [e]) fun e1=>?_
   refine step (fun e=>by unfold P2;simp [e]) fun e2=>?_
   refine step (fun e=>by unfold P2;simp [e]) fun e3=>?_
   refine step (fun e=>by unfold P2;simp [e]) fun e4=>?_
   refine step (fun e=>by unfold P2;simp [e]) fun e5=>?_
   refine step (fun e=>by unfold P2;simp [e]) fun e6=>?_
   refine step (fun e=>by unfold P2;simp [e]) fun e7=>?_
   refine step (fun e=>by unfold P2;simp [e]) fun e8=>?_
   refine step (fun e=>by unfold P2;simp [e]) fun e9=>?_
   refine step (fun e=>by unfold P2;simp [e]) fun pM=>?_
   exact FE fun q=>by
     have:=q.1.2.1
     unfold P2 at this
     simp [hs,e1,e2,e3,e4,e5,e6,e7,e8,e9,pM] at this
theorem ZB {A L B T:Prop} {x:Int}:(A∧¬ x < 0∧¬ 999999999999 < x∧(T→¬ 1 < x∧L∧B)∧(¬ T→L∧B))↔A∧0≤x∧x≤999999999999∧(T→x≤1)∧L∧B:=by
 constructor
 · rintro ⟨a,b,c,d,e⟩
   by_cases t:T
   · exact ⟨a,by omega,by omega,fun _=>by have:=(d t).1;omega,(d t).2⟩
   · exact ⟨a,by omega,by omega,fun h=>absurd h t,e t⟩
 · rintro ⟨a,b,c,d,e⟩
   exact ⟨a,by omega,by omega,fun t=>⟨by have:=d t;omega,e⟩,fun _=>e⟩
theorem YK:∀ (q:Nat) (n:Nd),CX n→3*Dp n≤q→pN (At q) n:=by
 intro q
 induction q using Nat.strongRecOn with
 | _ q ih =>
 intro n hok hq c d h0 h1 h2 h3
 have hsz:=Cf n
 obtain ⟨q,rfl⟩:∃ k,q=k+1:=⟨q - 1,by omega⟩
 obtain ⟨hps,hkl,hks⟩:=En hok
 have hE:∀ k∈n.kids,∀ q',q≤q'+2→q' < q+1→pN (At q') k:=fun k hk q' h4 h5=>ih q' h5 k (hks k hk) (by have:=EP hk;omega)
 rw [At,Cj]
 refine Hb (Ot n h0 h1) (fun hp=>?_) fun z hp=>FE fun a=>hp ⟨by omega,by have:=IY n;omega⟩
 dsimp only
 rw [cond_true]
 refine Out.congr (P:=LL n∧IP n.kids (c+1) (d+1)) (t:=(c+1)+G6 n.kids) ?_ ?_ (fun _=>by omega)
 rotate_left
 · rw [KS,IY]
   unfold IP
   have hd:=@Oq n.kids
   constructor
   · rintro ⟨a,b,e⟩
     refine ⟨⟨a,fun k hk=>(b k hk).1⟩,by omega,?_⟩
     have:=(hd (m:=(40 - d).toNat)).2 fun k hk=>by have:=(b k hk).2;omega
     omega
   · rintro ⟨⟨a,b⟩,e,f⟩
     refine ⟨a,fun k hk=>⟨b k hk,?_⟩,by omega⟩
     have:=(hd (m:=Vm n.kids)).1 (Nat.le_refl _) k hk
     omega
 have hc1:=hp.1
 have hd1:=hp.2
 rw [C0 (a:=d) (b:=1) (by omega)]
 have e0:(((n.kids.length:Nat):Int)=0)=(n.kids.length=0):=propext (by omega)
 simp only [Bk,FD,Ej,Cn,Bs,VJ,Vx,L1,YH,qU _ hps,Pq _ _ hps,Option.bind_some,e0]
 have hleaf:∀ {B:Prop},(B↔LL n)→(B→n.kids.length=0)→Out (some (mb B,c+1)) (LL n∧IP n.kids (c+1) (d+1)) (c+1+G6 n.kids):=fun hB hk=>(LU hB).congr ⟨fun a=>⟨a,(iF (hk (hB.2 a)) hc1).1⟩,fun a=>a.1⟩ fun a=>(iF (d:=d+1) (hk (hB.2 a.1)) hc1).2
 have hone:∀ {B:Prop},(LL n↔B∧n.kids.length=1)→B→n.kids.length=1→Out ((n.kids[0]?).bind fun x=>(At q ⟨c+1⟩ x (d+1)).bind fun (a,b)=>some (a,b)) (LL n∧IP n.kids (c+1) (d+1)) (c+1+G6 n.kids):=by
   intro B hB hb hl
   have hE0:=fun k hk=>hE k hk q (by omega) (by omega)
   have hx:=hB.2 ⟨hb,hl⟩
   generalize n.kids=ks at *
   match ks,hl with
   | [x],_ =>
   simp only [List.getElem?_cons_zero,Option.bind_some]
   refine Hc (hE0 x (by simp) (c+1) (d+1) (by omega) hc1 (by omega) (by omega)) ⟨fun a=>⟨hx,jA.2 a⟩,fun a=>jA.1 a.2⟩ fun _=>?_
   simp [G6]
 by_cases Xf:n.kind=11
 · rw [Ag Xf]
   simp only [RS,Ub,W7]
   refine hleaf ?_ ?_
   · rw [VW Xf];exact ZB
   · intro h;exact (ZB.1 h).2.2.2.2.1
 rw [Af Xf]
 by_cases U4:n.kind=12
 · rw [Ag U4]
   simp only [RS,Ub,W7]
   refine hleaf ?_ ?_
   · rw [bG U4]
   · intro h;exact h.2.1
 rw [Af U4]
 by_cases ZX:n.kind=13
 · rw [Ag ZX]
   simp only [RS,Ub,W7]
   refine hleaf ?_ ?_
   · rw [aY ZX]
   · intro h;exact h.2.1
 rw [Af ZX]
 by_cases YE:n.kind=14
 · rw [Ag YE]
   simp only [RS,Ub,W7]
   refine hleaf ?_ ?_
   · rw [gA YE]
   · intro h;exact h.2.1
 rw [Af YE]
 by_cases YR:n.kind=15
 · rw [Ag YR]
   have e:=ZM YR
   refine D0 (fun hl=>D0 (fun hb=>hone (e.trans And.comm) hb (by omega)) fun a=>(e.1 a.1).2) fun a=>?_
   have:=(e.1 a.1).1
   omega
 rw [Af YR]
 by_cases U7:n.kind=16
 · rw [Ag U7]
   have e:=XJ U7
   refine D0 (fun hb=>?_) fun a=>(e.1 a.1).1
   obtain ⟨q,rfl⟩:∃ k,q=k+1:=⟨q - 1,by omega⟩
   rw [AD]
   refine Hc (W2 (g:=At q) (b:=AD q) (n':=Av q) (l:=As q) (fun k hk=>hE k hk q (by omega) (by omega)) (fun k hk c d a1 a2 a3 a4=>?_) (by omega) hc1 h2 hd1) ?_ fun _=>rfl
   · obtain ⟨q,rfl⟩:∃ k,q=k+1:=⟨q - 1,by have:=MM hk;have:=Cf k;omega⟩
     rw [Av]
     exact QH (hE k hk q (by omega) (by omega)) a1 a2 a3 a4
   · rw [e]
     exact ⟨fun a=>⟨⟨hb,a.1⟩,a.2⟩,fun a=>⟨a.1.2,a.2⟩⟩
 rw [Af U7]
 by_cases XY:n.kind=17
 · rw [Ag XY]
   have e:=ZI XY
   have hall:(n.name=GP∨n.name=D8)→Out (AO (CZ n ⟨0,n.name,ByteArray.empty,0,0,0,0,⟨0,[]⟩,[],0⟩) (AO (2≤((n.kids.length:Nat):Int)) ((As q ⟨c+1⟩ n.kids (d+1)).bind fun (a,b)=>some (a,b)) (some (false,c+1))) (some (false,c+1))) (LL n∧IP n.kids (c+1) (d+1)) (c+1+G6 n.kids):=by
     intro hn
     refine D0 (fun hb=>D0 (fun hl=>?_) fun a=>?_) fun a=>(e.1 a.1).2.1
     · obtain ⟨q,rfl⟩:∃ k,q=k+1:=⟨q - 1,by have:=N7 n.kids;omega⟩
       rw [As,BG,Fa hkl,List.drop_zero]
       dsimp only
       refine Hc (Kl (g:=At q) (p:=J3) (d:=d+1) (by omega) hc1 fun k hk c' b0 b1=>hE k hk q (by omega) (by omega) c' (d+1) b0 b1 (by omega) (by omega)) ?_ fun _=>rfl
       rw [e]
       exact ⟨fun a=>⟨⟨hn,hb,by omega⟩,a⟩,fun a=>a.2⟩
     · have:=(e.1 a.1).2.2
       omega
   by_cases hn1:n.name=GP
   · rw [Ag hn1];exact hall (.inl hn1)
   · rw [Af hn1]
     exact D0 (fun hn2=>hall (.inr hn2)) fun a=>(e.1 a.1).1.resolve_left hn1
 rw [Af XY]
 by_cases ZU:n.kind=18
 · rw [Ag ZU]
   have e:=ZR ZU
   refine D0 (fun hb=>D0 (fun ht=>D0 (fun hl=>hone (B:=CZ n ⟨0,ByteArray.empty,ByteArray.empty,0,0,0,0,n.tab,[],0⟩∧Us n.tab) (e.trans (by rw [and_assoc])) ⟨hb,ht⟩ (by omega)) fun a=>?_) fun a=>(e.1 a.1).2.1) fun a=>(e.1 a.1).1
   have:=(e.1 a.1).2.2
   omega
 rw [Af ZU]
 exact FE fun a=>by have:=Oj a.1;omega
def Le {β:Type} (a b:Option β):Prop:=∀ y,a=some y→b=some y
section
variable {α β γ δ ρ:Type}
theorem Le.refl (a:Option β):Le a a:=fun _ h=>h
theorem GY {a a':Option α} {f g:α→Option β} (h:Le a a') (k:∀ x,Le (f x) (g x)):Le (a.bind f) (a'.bind g):=by
 intro y hy
 cases a with
 | none=>cases hy
 | some x=>rw [h x rfl];exact k x y hy
theorem Ol {b:Bool} {x x' y y':Option β} (h:Le x x') (k:Le y y'):Le (cond b x y) (cond b x' y'):=by cases b;exact k;exact h
theorem ZC {n:Nat} {x x':Option β} (h:Le x x'):Le (Gv n x) (Gv n x'):=by
 unfold Gv
 split
 · exact h
 · exact Le.refl _
theorem Rg {body body':Nat→α→γ→Option (Lp γ δ ρ)} {done:γ→δ} (h:∀ i y x,Le (body i y x) (body' i y x)):∀ (l:List α) (i:Nat) (x:γ),Le (AT body done l i x) (AT body' done l i x)
 | [],_,_=>Le.refl _
 | a::l,i,x=>by
   rw [AT,AT]
   refine GY (h i a x) fun z=>?_
   cases z with
   | nx x'=>exact Rg h l (i+1) x'
   | ex d=>exact Le.refl _
   | rt v=>exact Le.refl _
end
theorem Sa:∀ q:Nat,(∀ c n d,Le (At q c n d) (At (q+1) c n d))∧(∀ c n d,Le (AD q c n d) (AD (q+1) c n d))∧(∀ c n d,Le (Av q c n d) (Av (q+1) c n d))∧(∀ c n d,Le (As q c n d) (As (q+1) c n d))
 | 0=>⟨(fun _ _ _ _ h=>nomatch h),(fun _ _ _ _ h=>nomatch h),(fun _ _ _ _ h=>nomatch h),(fun _ _ _ _ h=>nomatch h)⟩
 | q+1=>by
   obtain ⟨i1,i2,i3,i4⟩:=Sa q
   refine ⟨fun c n d=>?_,fun c n d=>?_,fun c n d=>?_,fun c n d=>?_⟩
   · rw [At,At,Cj,Cj]
     repeat' first
       | exact Le.refl _
       | exact i1 _ _ _
       | exact i2 _ _ _
       | exact i4 _ _ _
       | refine Ol ?_ ?_
       | refine GY ?_ fun ⟨_,_⟩=>?_
       | refine GY ?_ fun _=>?_
   · rw [AD,AD,Bz,Bz]
     repeat' first
       | exact Le.refl _
       | exact i1 _ _ _
       | exact i3 _ _ _
       | refine Ol ?_ ?_
       | refine GY ?_ fun ⟨_,_⟩=>?_
       | refine GY ?_ fun _=>?_
   · rw [Av,Av,BB,BB]
     exact GY (i1 _ _ _) fun _=>Le.refl _
   · rw [As,As,BG,BG]
     refine GY (ZC (Rg (fun i y x=>?_) _ _ _)) fun _=>Le.refl _
     rw [BX,BX]
     exact GY (i1 _ _ _) fun _=>Le.refl _
theorem TQ {β:Type} {f:Nat→Option β} (h:∀ q,Le (f q) (f (q+1))) {q:Nat} {y:β} (hy:f q=some y):V8 f=some y:=by
 refine LB q fun m hm=>?_
 induction m with
 | zero=>obtain rfl:q=0:=by omega
         exact hy
 | succ m ih =>
   rcases Nat.lt_or_ge m q with hlt | hge
   · obtain rfl:q=m+1:=by omega
     exact hy
   · exact h m y (ih hge)
theorem Zr {n:Nd} (hok:CX n):pN DE n:=by
 intro c d h0 h1 h2 h3
 obtain ⟨z,hz,hz2⟩:=YK (3*Dp n) n hok (Nat.le_refl _) c d h0 h1 h2 h3
 exact ⟨z,TQ (fun q=>(Sa q).1 _ _ _) hz,hz2⟩
theorem XO {n:Nd} (hok:CX n) {c d:Int} (h0:0≤c) (h1:c≤2000) (h2:0≤d) (h3:d≤41):Out (Df ⟨c⟩ n d) ((J3 n∧Ke n)∧c+Dp n≤2000∧d+JC n≤41) (c+Dp n):=by
 obtain ⟨z,hz,hz2⟩:=QH (g:=At (3*Dp n)) (b:=AD (3*Dp n)) (a:=Av (3*Dp n)) (l:=As (3*Dp n)) (YK (3*Dp n) n hok (Nat.le_refl _)) h0 h1 h2 h3
 exact ⟨z,TQ (q:=3*Dp n+1) (fun q=>(Sa q).2.2.1 _ _ _) (by rw [Av];exact hz),hz2⟩
end Mo
end Go.Proofs.YtkfplcngmiljaaaGreatDoor
namespace Go.Proofs.YtkfplcngmiljaaaGreatDoor
open AI Go
namespace Mo
set_option maxRecDepth 100000
set_option maxHeartbeats 4000000
abbrev z0:Nd:=⟨0,ByteArray.empty,ByteArray.empty,0,0,0,0,⟨0,[]⟩,[],0⟩
theorem jF (n:Int):Dt n=some (mb (VU n)):=by
 rw [Dt]
 simp only [FD,Bs,F9,D6]
 rfl
def IS (n:Nd):Prop:=n.kind=5∧(0≤n.n∧n.n≤1000000)∧n.kids.length=0∧VU n.fr∧(n.fr < n.to∧n.to≤36525)∧VU n.known∧CZ n ⟨0,ByteArray.empty,ByteArray.empty,n.n,n.fr,n.to,n.known,⟨0,[]⟩,[],0⟩
def Bp (n:Nd):Prop:=CZ n z0∧(n.kind=7→0 < n.kids.length∧∀ k∈n.kids,J3 k∧Ke k)∧(n.kind≠7→n.kids.length=1∧∀ k∈n.kids,J3 k)
theorem Vi {n:Nd} (h:n.kids.length=0):Dp n=1∧JC n=1:=by
 have:=List.eq_nil_of_length_eq_zero h
 rw [Cf,IY,this]
 exact ⟨rfl,rfl⟩
theorem kW {n:Nd} (hok:CX n) {c d:Int} (h0:0≤c) (h1:c≤2000):Out (CV ⟨c⟩ n d) (IS n∧c+Dp n≤2000∧d+JC n≤41) (c+Dp n):=by
 obtain ⟨hps,hkl,hks⟩:=En hok
 have hsz:=Cf n
 have hdp:=IY n
 rw [CV]
 refine Hb (Ot n h0 h1) (fun hp=>?_) fun z hp=>FE fun a=>hp ⟨by omega,by omega⟩
 dsimp only
 rw [cond_true]
 simp only [Bk,FD,Ej,Bs,jF,Pq _ _ hps,Option.bind_some,RS,Ub]
 have key:(n.kind=5∧¬ n.n < 0∧¬ 1000000 < n.n∧¬ (0:Int) < ((n.kids.length:Nat):Int)∧VU n.fr∧¬ n.to≤n.fr∧¬ 36525 < n.to∧VU n.known∧CZ n ⟨0,ByteArray.empty,ByteArray.empty,n.n,n.fr,n.to,n.known,⟨0,[]⟩,[],0⟩)↔IS n:=by
   unfold IS
   constructor
   · rintro ⟨a,b,c',e,f,g,h,i,j⟩;exact ⟨a,⟨by omega,by omega⟩,by omega,f,⟨by omega,by omega⟩,i,j⟩
   · rintro ⟨a,b,c',f,g,i,j⟩;exact ⟨a,by omega,by omega,by omega,f,by omega,by omega,i,j⟩
 refine (LU key).congr ⟨fun a=>⟨a,?_⟩,fun a=>a.1⟩ fun a=>?_
 · have:=Vi a.2.2.1;omega
 · have:=Vi a.1.2.2.1;omega
theorem XX {n:Nd} (hok:CX n) {c d:Int} (h0:0≤c) (h1:c≤2000) (h2:0≤d):Out (BT ⟨c⟩ n d) (Bp n∧c+Dp n≤2000∧d+JC n≤41) (c+Dp n):=by
 obtain ⟨hps,hkl,hks⟩:=En hok
 have hsz:=Cf n
 have hdp:=IY n
 have hd:=@Oq n.kids
 rw [BT]
 refine Hb (Ot n h0 h1) (fun hp=>?_) fun z hp=>FE fun a=>hp ⟨by omega,by omega⟩
 dsimp only
 rw [cond_true,C0 (a:=d) (b:=1) (by omega)]
 simp only [Bk,Ej,Bs,Pq _ _ hps,Option.bind_some]
 have hc1:=hp.1
 have hd1:=hp.2
 have MP:(∀ k∈n.kids,d+1+JC k≤41)↔d+JC n≤41:=by
   constructor
   · intro h
     have:=(hd (m:=(40 - d).toNat)).2 fun k hk=>by have:=h k hk;omega
     omega
   · intro h k hk
     have:=(hd (m:=Vm n.kids)).1 (Nat.le_refl _) k hk
     omega
 refine D0 (fun hb=>?_) fun a=>a.1.1
 by_cases k7:n.kind=7
 · rw [Ag k7]
   refine D0 (fun hl=>?_) fun a=>by have:=(a.1.2.1 k7).1;omega
   rw [Cy,Fa hkl,List.drop_zero]
   dsimp only
   refine Hc (Kl (g:=Df) (p:=fun k=>J3 k∧Ke k) (d:=d+1) (by omega) hc1 fun k hk c' b0 b1=>XO (hks k hk) b0 b1 (by omega) (by omega)) ⟨fun a=>⟨⟨hb,fun _=>⟨by omega,fun k hk=>(a.1 k hk).1⟩,fun h=>absurd k7 h⟩,by omega,MP.1 fun k hk=>(a.1 k hk).2⟩,fun a=>⟨fun k hk=>⟨(a.1.2.1 k7).2 k hk,MP.2 a.2.2 k hk⟩,by omega⟩⟩ fun _=>by omega
 · rw [Af k7]
   refine D0 (fun hl=>?_) fun a=>by have:=(a.1.2.2 k7).1;omega
   have hl1:n.kids.length=1:=by omega
   unfold Bp
   generalize n.kids=ks at *
   match ks,hl1 with
   | [x],_ =>
   simp only [List.getElem?_cons_zero,Option.bind_some]
   have e1:G6 [x]=Dp x:=by simp [G6]
   refine Hc (Zr (hks x (by simp)) (c+1) (d+1) (by omega) hc1 (by omega) (by omega)) ⟨fun a=>⟨⟨hb,fun h=>absurd h k7,fun _=>⟨rfl,fun k hk=>by rw [List.mem_singleton.1 hk];exact a.1⟩⟩,by omega,MP.1 fun k hk=>by rw [List.mem_singleton.1 hk];exact a.2.2⟩,fun a=>⟨(a.1.2.2 k7).2 x (by simp),by omega,MP.2 a.2.2 x (by simp)⟩⟩ fun _=>by omega
def Bi (k:Int):List Nd→Nat
 | []=>0
 | a::l=>(if a.kind=k then 1 else 0)+Bi k l
theorem L4 (k:Int) (l:List Nd):Bi k l≤l.length:=by
 induction l with
 | nil=>simp [Bi]
 | cons a l ih=>simp only [Bi,List.length_cons];split<;>omega
def kinds (l:List Nd):Prop:=∀ k∈l,6≤k.kind∧k.kind≤8
theorem OW {y:Int}:∀ {l:List Nd} {i:Nat} {a b c:Int},0≤a→0≤b→0≤c→a+l.length≤9223372036854775807→b+l.length≤9223372036854775807→c+l.length≤9223372036854775807 →
   AT (fun i z x=>B9 y i z x.1 x.2.1 x.2.2) (fun x=>(x.1,x.2.1,x.2.2)) l i (a,b,c)=some (AO (kinds l) (.inl (a+Bi 6 l,b+Bi 7 l,c+Bi 8 l)) (.inr (false,y)))
 | [],i,a,b,c,_,_,_,_,_,_=>by rw [Ag (show kinds [] from fun k hk=>(by cases hk))];simp [AT,Bi]
 | z::l,i,a,b,c,h1,h2,h3,h4,h5,h6=>by
   simp only [List.length_cons] at h4 h5 h6
   rw [AT,B9]
   simp only [Ej,Bk,Bs]
   have hk:kinds (z::l)↔(6≤z.kind∧z.kind≤8)∧kinds l:=by unfold kinds;simp
   have go:∀ {a' b' c':Int},0≤a'→0≤b'→0≤c'→a'≤a+1→b'≤b+1→c'≤c+1→6≤z.kind∧z.kind≤8→a'+Bi 6 l=a+Bi 6 (z::l)→b'+Bi 7 l=b+Bi 7 (z::l)→c'+Bi 8 l=c+Bi 8 (z::l) →
       (some (Lp.nx (a',b',c'))).bind (GH (AT (fun i z x=>B9 y i z x.1 x.2.1 x.2.2) (fun x=>(x.1,x.2.1,x.2.2)) l (i+1)))=some (AO (kinds (z::l)) (.inl (a+Bi 6 (z::l),b+Bi 7 (z::l),c+Bi 8 (z::l))) (.inr (false,y))):=by
     intro a' b' c' g1 g2 g3 g4 g5 g6 gk e1 e2 e3
     show AT _ _ l (i+1) (a',b',c')=_
     rw [OW g1 g2 g3 (by omega) (by omega) (by omega),e1,e2,e3]
     by_cases hl:kinds l
     · rw [Ag hl,Ag (hk.2 ⟨gk,hl⟩)]
     · rw [Af hl,Af fun q=>hl (hk.1 q).2]
   by_cases k6:z.kind < 6
   · rw [Ag k6,Af fun q=>by have:=(hk.1 q).1;omega];rfl
   rw [Af k6]
   by_cases k8:8 < z.kind
   · rw [Ag k8,Af fun q=>by have:=(hk.1 q).1;omega];rfl
   rw [Af k8]
   by_cases e6:z.kind=6
   · rw [Ag e6,C0 (by omega)]
     exact go (by omega) h2 h3 (by omega) (by omega) (by omega) (by omega) (by simp [Bi,e6];omega) (by simp [Bi,e6]) (by simp [Bi,e6])
   rw [Af e6]
   by_cases e7:z.kind=7
   · rw [Ag e7,C0 (by omega)]
     exact go h1 (by omega) h3 (by omega) (by omega) (by omega) (by omega) (by simp [Bi,e7]) (by simp [Bi,e7];omega) (by simp [Bi,e7])
   rw [Af e7]
   have e8:z.kind=8:=by omega
   rw [Ag e8,C0 (by omega)]
   exact go h1 h2 (by omega) (by omega) (by omega) (by omega) (by omega) (by simp [Bi,e8]) (by simp [Bi,e8]) (by simp [Bi,e8];omega)
def fI (n:Nd):Prop:=EK n.n∧Fw n.name∧CZ n ⟨0,n.name,ByteArray.empty,n.n,0,0,0,⟨0,[]⟩,[],0⟩∧∃ h cs,n.kids=h::cs∧kinds cs∧Bi 8 cs=1∧Bi 7 cs≤1∧IS h∧∀ k∈cs,Bp k
def F4 (n:Nd):Prop :=
 (n.kind=2∧Fw n.name∧FH n.unit∧n.kids.length=0∧CZ n ⟨0,n.name,n.unit,0,0,0,0,⟨0,[]⟩,[],0⟩) ∨
 (n.kind=3∧Fw n.name∧FH n.unit∧1≤n.n∧n.n≤4∧n.kids.length=0∧CZ n ⟨0,n.name,n.unit,n.n,0,0,0,⟨0,[]⟩,[],0⟩) ∨
 (n.kind=4∧fI n)
theorem uZ {n:Nd} (h:n.kind=2):F4 n↔Fw n.name∧FH n.unit∧n.kids.length=0∧CZ n ⟨0,n.name,n.unit,0,0,0,0,⟨0,[]⟩,[],0⟩:=by unfold F4;simp [h]
theorem u4 {n:Nd} (h:n.kind=3):F4 n↔Fw n.name∧FH n.unit∧1≤n.n∧n.n≤4∧n.kids.length=0∧CZ n ⟨0,n.name,n.unit,n.n,0,0,0,⟨0,[]⟩,[],0⟩:=by unfold F4;simp [h]
theorem uB {n:Nd} (h:n.kind=4):F4 n↔fI n:=by unfold F4;simp [h]
theorem RN {n:Nd} (h:F4 n):n.kind=2∨n.kind=3∨n.kind=4:=by
 unfold F4 at h
 rcases h with h | h | h
 all_goals
   have:=h.1
   simp [this]
theorem jP {n:Nd} (hok:CX n) {c d:Int} (h0:0≤c) (h1:c≤2000) (h2:0≤d):Out (Ci ⟨c⟩ n d) (F4 n∧c+Dp n≤2000∧d+JC n≤41) (c+Dp n):=by
 obtain ⟨hps,hkl,hks⟩:=En hok
 have hsz:=Cf n
 have hdp:=IY n
 have hd:=@Oq n.kids
 rw [Ci]
 refine Hb (Ot n h0 h1) (fun hp=>?_) fun z hp=>FE fun a=>hp ⟨by omega,by omega⟩
 dsimp only
 rw [cond_true,C0 (a:=d) (b:=1) (by omega)]
 have e0:(((n.kids.length:Nat):Int)=0)=(n.kids.length=0):=propext (by omega)
 simp only [Bk,FD,Ej,Bs,VJ,Vx,L1,Pq _ _ hps,Option.bind_some,e0]
 have hc1:=hp.1
 have hd1:=hp.2
 have hleaf:∀ {B:Prop},(B↔F4 n)→(B→n.kids.length=0)→Out (some (mb B,c+1)) (F4 n∧c+Dp n≤2000∧d+JC n≤41) (c+Dp n):=fun hB hk=>(LU hB).congr ⟨fun a=>⟨a,by have:=Vi (hk (hB.2 a));omega⟩,fun a=>a.1⟩ fun a=>by have:=Vi (hk (hB.2 a.1));omega
 by_cases k2:n.kind=2
 · rw [Ag k2]
   simp only [RS,Ub,W7]
   refine hleaf ?_ ?_
   · rw [uZ k2]
   · intro h;exact h.2.2.1
 rw [Af k2]
 by_cases k3:n.kind=3
 · rw [Ag k3]
   simp only [RS,Ub,W7]
   refine hleaf ?_ ?_
   · rw [u4 k3]
   · intro h;exact h.2.2.2.2.1
 rw [Af k3]
 by_cases k4:n.kind=4
 rotate_left
 · rw [Af k4];exact FE fun a=>by have:=RN a.1;omega
 rw [Ag k4,uB k4]
 refine D0 (fun hr=>D0 (fun hn=>D0 (fun hb=>?_) fun a=>a.1.2.2.1) fun a=>a.1.2.1) fun a=>a.1.1
 refine Te (fun hl0=>?_) fun a h=>by obtain ⟨h',cs,hk,_⟩:=a.1.2.2.2;rw [hk] at h;simp at h
 have MP:(∀ k∈n.kids,d+1+JC k≤41)↔d+JC n≤41:=by
   constructor
   · intro h
     have:=(hd (m:=(40 - d).toNat)).2 fun k hk=>by have:=h k hk;omega
     omega
   · intro h k hk
     have:=(hd (m:=Vm n.kids)).1 (Nat.le_refl _) k hk
     omega
 unfold fI
 generalize n.kids=ks at *
 match ks,hl0 with
 | x::l,_ =>
 have hsub:JT (x::l) 1 (((x::l).length:Nat):Int)=some l:=by
   unfold JT
   rw [if_pos (by simp only [List.length_cons];omega)]
   simp
 rw [hsub]
 simp only [Option.bind_some,List.length_cons] at hkl ⊢
 have e2:∀ {A:Prop},(∃ h cs,x::l=h::cs∧kinds cs∧Bi 8 cs=1∧Bi 7 cs≤1∧IS h∧∀ k∈cs,Bp k)↔(kinds l∧Bi 8 l=1∧Bi 7 l≤1∧IS x∧∀ k∈l,Bp k):=by
   intro _
   constructor
   · rintro ⟨h,cs,e,r⟩;cases e;exact r
   · intro r;exact ⟨x,l,rfl,r⟩
 rw [Fa (by omega),List.drop_zero,OW (by omega) (by omega) (by omega) (by omega) (by omega) (by omega)]
 simp only [Option.bind_some]
 by_cases hK:kinds l
 rotate_left
 · rw [Af hK]
   show Out (some (false,c+1)) _ _
   exact FE fun a=>hK ((e2 (A:=True)).1 a.1.2.2.2).1
 rw [Ag hK]
 show Out (AO ((0:Int)+Bi 8 l=1) (AO (1 < (0:Int)+Bi 7 l) (some (false,c+1)) _) (some (false,c+1))) _ _
 refine D0 (fun h8=>Te (fun h7=>?_) fun a=>?_) fun a=>?_
 rotate_left
 · have:=((e2 (A:=True)).1 a.1.2.2.2).2.2.1;omega
 · have:=((e2 (A:=True)).1 a.1.2.2.2).2.1;omega
 simp only [List.getElem?_cons_zero,Option.bind_some]
 have hdx:=fun h=>MP.2 h x (by simp)
 have hsl:G6 (x::l)=Dp x+G6 l:=by simp [G6]
 refine Hb (kW (hks x (by simp)) (c:=c+1) (d:=d+1) (by omega) hc1) (fun hx=>?_) fun z hx=>FE fun a=>hx ⟨((e2 (A:=True)).1 a.1.2.2.2).2.2.2.1,by omega,hdx a.2.2⟩
 dsimp only
 rw [cond_true,Cz,Fa (by omega),List.drop_zero]
 dsimp only
 refine Hc (Kl (g:=BT) (p:=Bp) (d:=d+1) (by omega) hx.2.1 fun k hk c' b0 b1=>XX (hks k (by simp [hk])) b0 b1 (by omega)) ?_ fun _=>by omega
 constructor
 · rintro ⟨a,b⟩
   refine ⟨⟨hr,hn,hb,(e2 (A:=True)).2 ⟨hK,by omega,by omega,hx.1,fun k hk=>(a k hk).1⟩⟩,by omega,MP.1 fun k hk=>?_⟩
   rcases List.mem_cons.1 hk with rfl | hk
   · exact hx.2.2
   · exact (a k hk).2
 · rintro ⟨a,b,e⟩
   exact ⟨fun k hk=>⟨((e2 (A:=True)).1 a.2.2.2).2.2.2.2 k hk,MP.2 e k (by simp [hk])⟩,by omega⟩
def LM (n:Nd):Prop:=((n.kind=1∧CZ n z0∧∀ k∈n.kids,F4 k)∨(n.kind≠1∧J3 n))∧Dp n≤2000∧JC n≤40
theorem Rb {n:Nd} (hok:CX n):Dz n=some (mb (LM n)):=by
 obtain ⟨hps,hkl,hks⟩:=En hok
 have hsz:=Cf n
 have hdp:=IY n
 have hd:=@Oq n.kids
 rw [Dz,Bk,Bs]
 have fin:∀ {r:Option (Bool×Int)} {P:Prop} {t:Int},Out r P t→(P↔LM n)→(r.bind fun (a,_)=>some a)=some (mb (LM n)):=by
   rintro r P t ⟨z,rfl,_⟩ h
   rw [FI h];rfl
 by_cases k1:n.kind=1
 rotate_left
 · rw [Af k1]
   refine fin (Zr hok 0 1 (by omega) (by omega) (by omega) (by omega)) ?_
   unfold LM
   constructor
   · rintro ⟨a,b,c⟩;exact ⟨.inr ⟨k1,a⟩,by omega,by omega⟩
   · rintro ⟨a | a,b,c⟩
     · exact absurd a.1 k1
     · exact ⟨a.2,by omega,by omega⟩
 rw [Ag k1]
 obtain ⟨z,hz,hz2⟩:=Ot n (c:=0) (d:=1) (by omega) (by omega)
 rw [hz]
 simp only [Option.bind_some,Pq _ _ hps,Bs]
 by_cases h1:(0:Int)+1≤2000∧(1:Int)≤40
 rotate_left
 · exact absurd ⟨by omega,by omega⟩ h1
 rw [Ag h1,hz2 h1]
 by_cases hb:CZ n z0
 rotate_left
 · rw [Af hb]
   refine GK ?_
   rintro ⟨a | a,_⟩
   · exact hb a.2.1
   · exact a.1 k1
 rw [Ag hb,CT,Fa hkl,List.drop_zero]
 dsimp only
 refine fin (Kl (g:=Ci) (p:=F4) (d:=2) (by omega) (by omega) fun k hk c' b0 b1=>jP (hks k hk) b0 b1 (by omega)) ?_
 unfold LM
 constructor
 · rintro ⟨a,b⟩
   refine ⟨.inl ⟨k1,hb,fun k hk=>(a k hk).1⟩,by omega,?_⟩
   have:=(hd (m:=39)).2 fun k hk=>by have:=(a k hk).2;omega
   omega
 · rintro ⟨a | a,b,e⟩
   · refine ⟨fun k hk=>⟨a.2.2 k hk,?_⟩,by omega⟩
     have:=(hd (m:=Vm n.kids)).1 (Nat.le_refl _) k hk
     omega
   · exact absurd k1 a.1
end Mo
end Go.Proofs.YtkfplcngmiljaaaGreatDoor
namespace Go.Proofs.YtkfplcngmiljaaaGreatDoor
open AI Go
namespace Mo
set_option maxRecDepth 100000
set_option maxHeartbeats 4000000
theorem OA {β:Type} {p:Prop} {x y:β}:some (AO p x y)=AO p (some x) (some y):=by
 by_cases h:p
 · rw [Ag h,Ag h]
 · rw [Af h,Af h]
abbrev eS:ByteArray:=ByteArray.empty
def Nz (s:ByteArray):Prop:=s≠eS∧s≠A3∧s≠By∧s≠Cm
theorem R8 (s:ByteArray):DT s=some (mb (Nz s)):=by
 rw [DT]
 simp only [Cn,Bs,tD,dS]
 rfl
theorem YI {us:List ByteArray} {a:ByteArray} (ha:us[0]?=some a) (hl:us.length≤9223372036854775807):BJ us.length us=some (mb (∀ u∈us,u=a)):=by
 rw [BJ,Xx]
 have h0:0 < us.length:=(List.getElem?_eq_some_iff.1 ha).1
 refine oJ (fun i _=>∀ j u,j < i→us[j]?=some u→u=a) hl (fun j u hj=>by omega) (fun i x hi hI=>?_) (fun x hI=>?_)
 · have hx:us[i]?=some us[i]:=List.getElem?_eq_getElem hi
   rw [FR,hx]
   have hk:LD us.length ((0:Nat):Int)=some 0:=by unfold LD;rw [if_pos (by omega)];rfl
   rw [hk]
   simp only [Option.bind_some,ha,Cn,Bs]
   by_cases h:us[i]=a
   · rw [Ag h]
     refine ⟨_,rfl,fun j u hj hu=>?_⟩
     rcases Nat.lt_or_ge j i with hlt | hge
     · exact hI j u hlt hu
     · obtain rfl:j=i:=by omega
       rw [hx] at hu;cases hu;exact h
   · rw [Af h]
     refine ⟨_,rfl,?_⟩
     exact ⟨_,rfl,(UA fun q=>h (q _ (List.getElem_mem hi))).symm⟩
 · refine ⟨_,rfl,(Bj.2 fun u hu=>?_).symm⟩
   obtain ⟨j,hj⟩:=List.getElem?_of_mem hu
   exact hI j u (List.getElem?_eq_some_iff.1 hj).1 hj
noncomputable def Vg (op a b:ByteArray) (E:Prop):ByteArray :=
 AO (op=Sl) (AO (a=A3) (AO E A3 eS) eS) (AO (op=IK) (AO (a=A3) (AO E A3 eS) eS) (AO (op=IF) (AO E A3 eS) (AO (op=Is) (AO E A3 eS)
   (AO (op=PQ) (AO E (AO (a=A3) eS A3) eS) (AO (op=Iu) (AO E (AO (a=A3) eS A3) eS) (AO (op=K6) (AO E (AO (a=A3) eS a) eS) (AO (op=H7) (AO E (AO (a=A3) eS a) eS)
     (AO (op=O7) (AO (a=By) (AO (b=A3) eS b) (AO (b=By) (AO (a=A3) eS a) eS)) (AO (op=Jm) (AO (a=A3) eS a) (AO (op=Tl) (AO (a=Cm) (AO (Nz b) b eS) eS) eS))))))))))
theorem n8 {op a b:ByteArray} {us:List ByteArray} (ha:us[0]?=some a) (hb:us[us.length - 1]?=some b) (hl:us.length≤9223372036854775807):B8 op us.length us=some (Vg op a b (∀ u∈us,u=a)):=by
 have h0:0 < us.length:=(List.getElem?_eq_some_iff.1 ha).1
 have hk:LD us.length ((0:Nat):Int)=some 0:=by unfold LD;rw [if_pos (by omega)];rfl
 have hk2:LD us.length (RB ((us.length:Nat):Int) 1)=some (us.length - 1):=by
   rw [Mg (by omega)]
   unfold LD
   rw [if_pos (by omega)]
   congr 1
   omega
 rw [B8,hk,hk2]
 simp only [Option.bind_some,ha,hb,YI ha hl,R8,Cn,Bs]
 unfold Vg
 simp only [OA]
noncomputable def IQ (op:ByteArray) (us:List ByteArray):ByteArray:=Vg op (us.headD eS) (us.getLastD eS) (∀ u∈us,u=us.headD eS)
theorem aJ {op:ByteArray} {us:List ByteArray} (h0:us≠[]) (hl:us.length≤9223372036854775807):B8 op us.length us=some (IQ op us):=by
 cases us with
 | nil=>exact absurd rfl h0
 | cons a l =>
   refine n8 (a:=a) (b:=(a::l).getLastD eS) rfl ?_ hl
   rw [List.getLastD_cons,← List.getLast?_eq_getElem?,List.getLast?_cons,List.getLastD_eq_getLast?]
def L8 (e at_:Int) (ds:List Dg):List Dg:=if ds.length < 20 then ds++[⟨e,at_⟩] else ds
theorem S1 (e at_:Int) (ds:List Dg):An e at_ ds=some ((),L8 e at_ ds):=by
 rw [An,Ej,Bs]
 unfold L8
 by_cases h:ds.length < 20
 · rw [Ag (by omega),if_pos h,U3 (by omega)]
 · rw [Af (by omega),if_neg h]
noncomputable def Ep (s:Sc) (n:Nd) (us:List ByteArray):ByteArray :=
 AO (n.kind=11) n.unit (AO (n.kind=12) ((s.facts.get n.name).getD eS) (AO (n.kind=13) ((s.lines.get ((s.Ah.get n.n).getD eS)).getD eS) (AO (n.kind=14) By
   (AO (n.kind=15) (IQ IK us) (AO (n.kind=16) (IQ n.name us) (AO (n.kind=17) (IQ K6 us) (AO (n.kind=18) (AO (Nz (us.headD eS)) (us.headD eS) eS) eS)))))))
noncomputable def Mw (n:Nd):Int:=AO (n.kind=12) 91 (AO (n.kind=13) 91 11)
noncomputable def bC (s:Sc) (n:Nd) (r:List ByteArray×List Dg):ByteArray×List Dg :=
 AO (∀ u∈r.1,u≠eS) (AO (Ep s n r.1=eS) (Ep s n r.1,L8 (Mw n) n.att r.2) (Ep s n r.1,r.2)) (eS,r.2)
mutual
noncomputable def CQ (s:Sc):Nd→List Dg→ByteArray×List Dg
 | ⟨kind,name,unit,n,fr,to,known,tab,kids,att⟩,ds=>bC s ⟨kind,name,unit,n,fr,to,known,tab,kids,att⟩ (Dd s kids ds)
noncomputable def Dd (s:Sc):List Nd→List Dg→List ByteArray×List Dg
 | [],ds=>([],ds)
 | k::ks,ds=>((CQ s k ds).1::(Dd s ks (CQ s k ds).2).1,(Dd s ks (CQ s k ds).2).2)
end
theorem Qi (s:Sc) (n:Nd) (ds:List Dg):CQ s n ds=bC s n (Dd s n.kids ds):=by cases n;rw [CQ]
theorem NK (s:Sc):∀ (l:List Nd) (ds:List Dg),(Dd s l ds).1.length=l.length
 | [],_=>by rw [Dd];rfl
 | k::l,ds=>by rw [Dd];simp [NK s l]
theorem Qy {s:Sc} {g:Sc→Nd→List Dg→Option (ByteArray×List Dg)}:∀ {l:List Nd} {done:List ByteArray} {w:Prop} {ds:List Dg},(∀ k∈l,∀ ds,g s k ds=some (CQ s k ds)) →
   AT (fun i y x=>B7 g s i y x.1 x.2.1 x.2.2) (fun x=>(x.1,x.2.1,x.2.2)) l done.length (mb w,done++List.replicate l.length eS,ds)=some (.inl (mb (w∧∀ u∈(Dd s l ds).1,u≠eS),done++(Dd s l ds).1,(Dd s l ds).2))
 | [],done,w,ds,_=>by
   rw [AT,Dd]
   simp
 | k::l,done,w,ds,h=>by
   rw [AT,B7,h k (by simp)]
   have hlt:done.length < (done++List.replicate (k::l).length eS).length:=by simp
   have hx:(done++List.replicate (k::l).length eS)[done.length]?=some eS:=by
     rw [List.getElem?_append_right (Nat.le_refl _)];simp
   have hset:(done++List.replicate (k::l).length eS).set done.length (CQ s k ds).1=(done++[(CQ s k ds).1])++List.replicate l.length eS:=by
     rw [List.set_append_right _ _ (Nat.le_refl _)]
     simp [List.replicate_succ]
   have hg:((done++[(CQ s k ds).1])++List.replicate l.length eS)[done.length]?=some (CQ s k ds).1:=by
     rw [List.append_assoc,List.getElem?_append_right (Nat.le_refl _)];simp
   have ih:=fun w'=>Qy (s:=s) (g:=g) (l:=l) (done:=done++[(CQ s k ds).1]) (w:=w') (ds:=(CQ s k ds).2) fun k' hk'=>h k' (by simp [hk'])
   simp only [List.length_append,List.length_cons,List.length_nil,Nat.zero_add] at ih
   simp only [Option.bind_some,hx,hset,hg,Cn,Bs]
   rw [Dd]
   have fin:∀ w',(w'↔w∧(CQ s k ds).1≠eS)→(GH (AT (fun i y x=>B7 g s i y x.1 x.2.1 x.2.2) (fun x=>(x.1,x.2.1,x.2.2)) l (done.length+1)) (.nx (mb w',done++[(CQ s k ds).1]++List.replicate l.length eS,(CQ s k ds).2)))=some (.inl (mb (w∧∀ u∈(CQ s k ds).1::(Dd s l (CQ s k ds).2).1,u≠eS),done++((CQ s k ds).1::(Dd s l (CQ s k ds).2).1),(Dd s l (CQ s k ds).2).2)):=by
     intro w' hw
     show AT _ _ l (done.length+1) _=_
     rw [ih w']
     congr 2
     refine Prod.ext (FI ?_) (Prod.ext (by simp) rfl)
     simp only [List.mem_cons,forall_eq_or_imp,hw]
     exact and_assoc
   by_cases hw:w
   · rw [Ag hw]
     by_cases hu:(CQ s k ds).1=eS
     · rw [Ag hu,yZ]
       exact fin False ⟨fun q=>q.elim,fun q=>q.2 hu⟩
     · rw [Af hu,pI]
       exact fin True ⟨fun _=>⟨hw,hu⟩,fun _=>trivial⟩
   · rw [Af hw,yZ]
     exact fin False ⟨fun q=>q.elim,fun q=>hw q.1⟩
section
variable {s:Sc} {n:Nd} {us:List ByteArray}
theorem u11 (h:n.kind=11):Ep s n us=n.unit:=by unfold Ep;rw [Ag h]
theorem u12 (h:n.kind=12):Ep s n us=(s.facts.get n.name).getD eS:=by unfold Ep;rw [Af (by omega),Ag h]
theorem u13 (h:n.kind=13):Ep s n us=(s.lines.get ((s.Ah.get n.n).getD eS)).getD eS:=by unfold Ep;rw [Af (by omega),Af (by omega),Ag h]
theorem u14 (h:n.kind=14):Ep s n us=By:=by unfold Ep;rw [Af (by omega),Af (by omega),Af (by omega),Ag h]
theorem u15 (h:n.kind=15):Ep s n us=IQ IK us:=by unfold Ep;rw [Af (by omega),Af (by omega),Af (by omega),Af (by omega),Ag h]
theorem u16 (h:n.kind=16):Ep s n us=IQ n.name us:=by unfold Ep;rw [Af (by omega),Af (by omega),Af (by omega),Af (by omega),Af (by omega),Ag h]
theorem u17 (h:n.kind=17):Ep s n us=IQ K6 us:=by unfold Ep;rw [Af (by omega),Af (by omega),Af (by omega),Af (by omega),Af (by omega),Af (by omega),Ag h]
theorem u18 (h:n.kind=18):Ep s n us=AO (Nz (us.headD eS)) (us.headD eS) eS:=by unfold Ep;rw [Af (by omega),Af (by omega),Af (by omega),Af (by omega),Af (by omega),Af (by omega),Af (by omega),Ag h]
theorem qL (h:n.kind=12∨n.kind=13):Mw n=91:=by
 unfold Mw
 by_cases e:n.kind=12
 · rw [Ag e]
 · rw [Af e,Ag (h.resolve_left e)]
theorem W8 (h1:n.kind≠12) (h2:n.kind≠13):Mw n=11:=by unfold Mw;rw [Af h1,Af h2]
end
theorem rV {n:Nd} (h:LL n) (hk:n.kind=15∨n.kind=16∨n.kind=17∨n.kind=18):0 < n.kids.length:=by
 rcases hk with e | e | e | e
 · have:=((ZM e).1 h).1;omega
 · have:=((XJ e).1 h).2.1;omega
 · have:=((ZI e).1 h).2.2;omega
 · have:=((ZR e).1 h).2.2;omega
theorem cA:∀ (q:Nat) (s:Sc) (n:Nd) (ds:List Dg),J3 n→Dp n≤q→Dp n≤2000→Bg q s n ds=some (CQ s n ds):=by
 intro q
 induction q with
 | zero=>intro s n ds _ h;have:=Cf n;omega
 | succ q ih =>
 intro s n ds he hq h2
 obtain ⟨hQ,hks⟩:=(KS n).1 he
 have hsz:=Cf n
 have hkl:=N7 n.kids
 rw [Bg,DD,Qi]
 have hl:=NK s n.kids ds
 have hf:=Qy (s:=s) (g:=Bg q) (l:=n.kids) (done:=[]) (w:=True) (ds:=ds) fun k hk ds'=>ih s k ds' (hks k hk) (by have:=EP hk;omega) (by have:=EP hk;omega)
 simp only [List.nil_append,List.length_nil,true_and,← pI] at hf
 unfold dI
 rw [if_pos (by omega),Fa (by omega),List.drop_zero,hf]
 show cond (mb (∀ u∈(Dd s n.kids ds).1,u≠eS)) _ _=_
 unfold bC
 generalize hr:Dd s n.kids ds=r at *
 obtain ⟨us,ds2⟩:=r
 dsimp only at hl ⊢
 rw [← hl]
 simp only [Bs,Bk,Cn,S1,R8]
 rw [OA]
 congr 1
 rw [OA]
 have hne:=fun hk=>rV hQ hk
 have hul:us.length≤9223372036854775807:=by omega
 have hop:∀ op,0 < n.kids.length→B8 op us.length us=some (IQ op us):=fun op h=>aJ (fun e=>by rw [e] at hl;simp at hl;omega) hul
 rcases Oj hQ with k | k | k | k | k | k | k | k
 · rw [Ag k,u11 k,W8 (by omega) (by omega)];rfl
 · rw [Af (by omega),Ag k,u12 k,qL (.inl k)];rfl
 · rw [Af (by omega),Af (by omega),Ag k,u13 k,qL (.inr k)];rfl
 · rw [Af (by omega),Af (by omega),Af (by omega),Ag k,u14 k,W8 (by omega) (by omega)];rfl
 · rw [Af (by omega),Af (by omega),Af (by omega),Af (by omega),Ag k,u15 k,W8 (by omega) (by omega),hop IK (hne (by omega))];rfl
 · rw [Af (by omega),Af (by omega),Af (by omega),Af (by omega),Af (by omega),Ag k,u16 k,W8 (by omega) (by omega),hop n.name (hne (by omega))];rfl
 · rw [Af (by omega),Af (by omega),Af (by omega),Af (by omega),Af (by omega),Af (by omega),Ag k,u17 k,W8 (by omega) (by omega),hop K6 (hne (by omega))];rfl
 · rw [Af (by omega),Af (by omega),Af (by omega),Af (by omega),Af (by omega),Af (by omega),Af (by omega),Ag k,u18 k,W8 (by omega) (by omega)]
   have h0:=hne (by omega)
   cases us with
   | nil=>simp at hl;omega
   | cons a l =>
   have hk0:LD (a::l).length ((0:Nat):Int)=some 0:=by unfold LD;rw [if_pos (by simp only [List.length_cons];omega)];rfl
   rw [hk0]
   simp only [Option.bind_some,List.getElem?_cons_zero,List.headD_cons,Bs]
   by_cases hc:Nz a
   · rw [Ag hc,Ag hc]
   · rw [Af hc,Af hc,Ag trivial,Ag rfl]
theorem VG {s:Sc} {n:Nd} {ds:List Dg} (he:J3 n) (h:Dp n≤2000):CU s n ds=some (CQ s n ds) :=
 LB (Dp n) fun q hq=>cA q s n ds he hq h
end Mo
end Go.Proofs.YtkfplcngmiljaaaGreatDoor
namespace Go.Proofs.YtkfplcngmiljaaaGreatDoor
open AI Go
namespace Mo
set_option maxRecDepth 100000
set_option maxHeartbeats 4000000
noncomputable def fU (k:Int):List Nd→ByteArray→Option ByteArray
 | [],_=>none
 | a::l,x=>AO (a.kind=k∧a.name=x) (some a.unit) (fU k l x)
noncomputable def fA:List Nd→Int→Option ByteArray
 | [],_=>none
 | a::l,z=>AO (a.kind=4∧a.n=z) (some a.name) (fA l z)
abbrev bN:Type:=Mm ByteArray ByteArray×Mm ByteArray ByteArray×Mm Int ByteArray
noncomputable def JB (a:Nd) (x:bN):bN :=
 AO (a.kind=2) (AO ((x.1.get a.name).isSome=true) x (x.1.set a.name a.unit,x.2.1,x.2.2))
   (AO (a.kind=3) (AO ((x.2.1.get a.name).isSome=true) x (x.1,x.2.1.set a.name a.unit,x.2.2))
     (AO (a.kind=4) (AO ((x.2.2.get a.n).isSome=true) x (x.1,x.2.1,x.2.2.set a.n a.name)) x))
noncomputable def Rf:List Nd→bN→bN
 | [],x=>x
 | a::l,x=>Rf l (JB a x)
noncomputable def QW (n:Nd):Sc:=⟨(Rf n.kids (Mm.nil,Mm.nil,Mm.nil)).1,(Rf n.kids (Mm.nil,Mm.nil,Mm.nil)).2.1,(Rf n.kids (Mm.nil,Mm.nil,Mm.nil)).2.2⟩
theorem SH:∀ (l:List Nd) (i:Nat) (x:bN),AT (fun i y x=>Db i y x.1 x.2.1 x.2.2) (fun x=>(x.1,x.2.1,x.2.2)) l i x=(some (.inl (Rf l x)):Option (bN⊕Sc))
 | [],_,_=>rfl
 | a::l,i,x=>by
   rw [AT,Db,Rf]
   have e:∀ x',(some (Lp.nx x'):Option (Lp bN bN Sc)).bind (GH (AT (fun i y x=>Db i y x.1 x.2.1 x.2.2) (fun x=>(x.1,x.2.1,x.2.2)) l (i+1)))=some (.inl (Rf l x')):=fun x'=>SH l (i+1) x'
   simp only [Bk,Bs,r6,FY]
   unfold JB
   by_cases k2:a.kind=2
   · rw [Ag k2,Ag k2]
     by_cases h:(x.1.get a.name).isSome=true
     · rw [Ag h,Ag h];exact e _
     · rw [Af h,Af h];exact e _
   rw [Af k2,Af k2]
   by_cases k3:a.kind=3
   · rw [Ag k3,Ag k3]
     by_cases h:(x.2.1.get a.name).isSome=true
     · rw [Ag h,Ag h];exact e _
     · rw [Af h,Af h];exact e _
   rw [Af k3,Af k3]
   by_cases k4:a.kind=4
   · rw [Ag k4,Ag k4]
     by_cases h:(x.2.2.get a.n).isSome=true
     · rw [Ag h,Ag h];exact e _
     · rw [Af h,Af h];exact e _
   rw [Af k4,Af k4]
   exact e _
theorem Vh {n:Nd} (hok:CX n):Dw n=some (QW n):=by
 obtain ⟨hps,hkl,hks⟩:=En hok
 rw [Dw,Fa hkl,List.drop_zero,SH]
 rfl
theorem Of:∀ (l:List Nd) (x:bN),(∀ y,(Rf l x).1.get y=(x.1.get y).or (fU 2 l y))∧(∀ y,(Rf l x).2.1.get y=(x.2.1.get y).or (fU 3 l y))∧∀ z,(Rf l x).2.2.get z=(x.2.2.get z).or (fA l z)
 | [],x=>⟨fun y=>by simp [Rf,fU],fun y=>by simp [Rf,fU],fun z=>by simp [Rf,fA]⟩
 | a::l,x=>by
   obtain ⟨h1,h2,h3⟩:=Of l (JB a x)
   have s1:∀ y,(JB a x).1.get y=(x.1.get y).or (AO (a.kind=2∧a.name=y) (some a.unit) none):=by
     intro y
     unfold JB
     by_cases k2:a.kind=2
     · rw [Ag k2]
       by_cases h:(x.1.get a.name).isSome=true
       · rw [Ag h]
         by_cases e:a.name=y
         · subst e
           obtain ⟨v,hv⟩:=Option.isSome_iff_exists.1 h
           rw [hv];rfl
         · rw [Af (show ¬ (a.kind=2∧a.name=y) from fun q=>e q.2)];simp
       · rw [Af h]
         show (x.1.set a.name a.unit).get y=_
         rw [Mm.Fi]
         by_cases e:y=a.name
         · subst e
           rw [if_pos rfl,Ag ⟨k2,rfl⟩]
           have:x.1.get a.name=none:=by simpa using h
           rw [this];rfl
         · rw [if_neg e,Af (show ¬ (a.kind=2∧a.name=y) from fun q=>e q.2.symm)];simp
     · rw [Af k2,Af (show ¬ (a.kind=2∧a.name=y) from fun q=>k2 q.1)]
       by_cases k3:a.kind=3
       · rw [Ag k3]
         by_cases h:(x.2.1.get a.name).isSome=true
         · rw [Ag h];simp
         · rw [Af h];simp
       · rw [Af k3]
         by_cases k4:a.kind=4
         · rw [Ag k4]
           by_cases h:(x.2.2.get a.n).isSome=true
           · rw [Ag h];simp
           · rw [Af h];simp
         · rw [Af k4];simp
   have s2:∀ y,(JB a x).2.1.get y=(x.2.1.get y).or (AO (a.kind=3∧a.name=y) (some a.unit) none):=by
     intro y
     unfold JB
     by_cases k2:a.kind=2
     · rw [Ag k2,Af (show ¬ (a.kind=3∧a.name=y) from fun q=>by omega)]
       by_cases h:(x.1.get a.name).isSome=true
       · rw [Ag h];simp
       · rw [Af h];simp
     · rw [Af k2]
       by_cases k3:a.kind=3
       · rw [Ag k3]
         by_cases h:(x.2.1.get a.name).isSome=true
         · rw [Ag h]
           by_cases e:a.name=y
           · subst e
             obtain ⟨v,hv⟩:=Option.isSome_iff_exists.1 h
             rw [hv];rfl
           · rw [Af (show ¬ (a.kind=3∧a.name=y) from fun q=>e q.2)];simp
         · rw [Af h]
           show (x.2.1.set a.name a.unit).get y=_
           rw [Mm.Fi]
           by_cases e:y=a.name
           · subst e
             rw [if_pos rfl,Ag ⟨k3,rfl⟩]
             have:x.2.1.get a.name=none:=by simpa using h
             rw [this];rfl
           · rw [if_neg e,Af (show ¬ (a.kind=3∧a.name=y) from fun q=>e q.2.symm)];simp
       · rw [Af k3,Af (show ¬ (a.kind=3∧a.name=y) from fun q=>k3 q.1)]
         by_cases k4:a.kind=4
         · rw [Ag k4]
           by_cases h:(x.2.2.get a.n).isSome=true
           · rw [Ag h];simp
           · rw [Af h];simp
         · rw [Af k4];simp
   have s3:∀ z,(JB a x).2.2.get z=(x.2.2.get z).or (AO (a.kind=4∧a.n=z) (some a.name) none):=by
     intro z
     unfold JB
     by_cases k2:a.kind=2
     · rw [Ag k2,Af (show ¬ (a.kind=4∧a.n=z) from fun q=>by omega)]
       by_cases h:(x.1.get a.name).isSome=true
       · rw [Ag h];simp
       · rw [Af h];simp
     · rw [Af k2]
       by_cases k3:a.kind=3
       · rw [Ag k3,Af (show ¬ (a.kind=4∧a.n=z) from fun q=>by omega)]
         by_cases h:(x.2.1.get a.name).isSome=true
         · rw [Ag h];simp
         · rw [Af h];simp
       · rw [Af k3]
         by_cases k4:a.kind=4
         · rw [Ag k4]
           by_cases h:(x.2.2.get a.n).isSome=true
           · rw [Ag h]
             by_cases e:a.n=z
             · subst e
               obtain ⟨v,hv⟩:=Option.isSome_iff_exists.1 h
               rw [hv];rfl
             · rw [Af (show ¬ (a.kind=4∧a.n=z) from fun q=>e q.2)];simp
           · rw [Af h]
             show (x.2.2.set a.n a.name).get z=_
             rw [Mm.Fi]
             by_cases e:z=a.n
             · subst e
               rw [if_pos rfl,Ag ⟨k4,rfl⟩]
               have:x.2.2.get a.n=none:=by simpa using h
               rw [this];rfl
             · rw [if_neg e,Af (show ¬ (a.kind=4∧a.n=z) from fun q=>e q.2.symm)];simp
         · rw [Af k4,Af (show ¬ (a.kind=4∧a.n=z) from fun q=>k4 q.1)];simp
   have or_if:∀ {p:Prop} {u:ByteArray} {o f:Option ByteArray},(o.or (AO p (some u) none)).or f=o.or (AO p (some u) f):=by
     intro p u o f
     by_cases h:p
     · rw [Ag h,Ag h];cases o<;>rfl
     · rw [Af h,Af h];cases o<;>rfl
   refine ⟨fun y=>?_,fun y=>?_,fun z=>?_⟩
   · rw [Rf,h1,s1,fU,or_if]
   · rw [Rf,h2,s2,fU,or_if]
   · rw [Rf,h3,s3,fA,or_if]
theorem X3 (n:Nd) (x:ByteArray):(QW n).facts.get x=fU 2 n.kids x:=by
 have:=(Of n.kids (Mm.nil,Mm.nil,Mm.nil)).1 x
 exact this.trans (by rw [Mm.get_nil];rfl)
theorem OF (n:Nd) (x:ByteArray):(QW n).lines.get x=fU 3 n.kids x:=by
 have:=(Of n.kids (Mm.nil,Mm.nil,Mm.nil)).2.1 x
 exact this.trans (by rw [Mm.get_nil];rfl)
theorem Rx (n:Nd) (z:Int):(QW n).Ah.get z=fA n.kids z:=by
 have:=(Of n.kids (Mm.nil,Mm.nil,Mm.nil)).2.2 z
 exact this.trans (by rw [Mm.get_nil];rfl)
noncomputable def Km (src e:Nd):ByteArray×List Dg:=AO ((src.kind=1∧e.kind≠1)∧LM src∧LM e) (CQ (QW src) e []) (eS,[⟨1,e.att⟩])
theorem kM {e:Nd} (h:LM e) (hk:e.kind≠1):J3 e∧Dp e≤2000∧JC e≤40:=by
 obtain ⟨a | a,b⟩:=h
 · exact absurd a.1 hk
 · exact ⟨a.2,b⟩
theorem UU {src e:Nd} (hs:CX src) (he:CX e):EF src e=some (Km src e):=by
 rw [EF,Rb hs,Rb he,Vh hs]
 simp only [Option.bind_some,Bk,Bs]
 unfold Km
 by_cases k1:src.kind=1
 rotate_left
 · rw [Af k1,Af fun q=>k1 q.1.1]
 rw [Ag k1]
 by_cases k2:e.kind=1
 · rw [Ag k2,Af fun q=>q.1.2 k2]
 rw [Af k2]
 by_cases v1:LM src
 rotate_left
 · rw [Af v1,Af fun q=>v1 q.2.1]
 rw [Ag v1]
 by_cases v2:LM e
 rotate_left
 · rw [Af v2,Af fun q=>v2 q.2.2]
 rw [Ag v2,Ag ⟨⟨k1,k2⟩,v1,v2⟩]
 obtain ⟨a,b,_⟩:=kM v2 k2
 rw [show De=some () from rfl]
 simp only [Option.bind_some]
 rw [VG a b]
 rfl
theorem S0:∀ q:Nat,∀ n l,Le (Bt q n l) (Bt (q+1) n l)
 | 0=>fun _ _ _ h=>nomatch h
 | q+1=>fun n l=>by
   have ih:=S0 q
   rw [Bt,Bt,DU,DU]
   refine Ol (Le.refl _) (GY (ZC (Rg (fun i y x=>?_) _ _ _)) fun _=>Le.refl _)
   rw [C7,C7]
   exact Ol (GY (ih _ _) fun _=>Le.refl _) (Le.refl _)
theorem cE:∀ (q:Nat) (n:Nd) (l:Int),CX n→Dp n≤q→∃ y,Bt q n l=some y:=by
 intro q
 induction q with
 | zero=>intro n _ _ h;have:=Cf n;omega
 | succ q ih =>
   intro n l hok hq
   obtain ⟨hps,hkl,hks⟩:=En hok
   have hsz:=Cf n
   rw [Bt,DU]
   cases K2 l 0 with
   | true=>exact ⟨_,rfl⟩
   | false =>
     rw [cond_false,Fa hkl,List.drop_zero]
     have key:∀ (m:List Nd),(∀ k∈m,k∈n.kids)→∀ (i:Nat) (x:Int),∃ y,(AT (ρ:=Int) (fun i y x=>C7 (Bt q) l i y x) (fun x=>x) m i x)=some y:=by
       intro m
       induction m with
       | nil=>intro _ i x;exact ⟨_,rfl⟩
       | cons a m ihm =>
         intro hm i x
         rw [AT,C7]
         cases FV x l with
         | false=>exact ⟨_,rfl⟩
         | true =>
           obtain ⟨y,hy⟩:=ih a (RB l x) (hks a (hm a (by simp))) (by have:=EP (hm a (by simp));omega)
           rw [cond_true,hy]
           exact ihm (fun k hk=>hm k (by simp [hk])) _ _
     obtain ⟨y,hy⟩:=key n.kids (fun _ h=>h) 0 1
     rw [hy]
     cases y<;>exact ⟨_,rfl⟩
theorem iZ {n:Nd} (hok:CX n) (l:Int):∃ b,DQ n l=some b:=by
 obtain ⟨y,hy⟩:=cE (Dp n) n (BK l 1) hok (Nat.le_refl _)
 have:GZ n (BK l 1)=some y:=TQ (fun q=>S0 q _ _) hy
 rw [DQ,this]
 simp only [Option.bind_some]
 cases K2 y l<;>exact ⟨_,rfl⟩
theorem tH {a b:Nd} (ha:CX a) (hb:CX b):∃ y,He a b=some y:=by
 obtain ⟨x,hx⟩:=iZ ha 400
 obtain ⟨y,hy⟩:=iZ hb 400
 rw [He,hx,hy]
 cases x<;>exact ⟨_,rfl⟩
end Mo
end Go.Proofs.YtkfplcngmiljaaaGreatDoor
namespace Go.Proofs.YtkfplcngmiljaaaGreatDoor
open AI Go
namespace Mo
set_option maxRecDepth 100000
set_option maxHeartbeats 4000000
def cap (ds r:List Dg):List Dg:=(ds++r).take 20
theorem HY (ds a b:List Dg):cap (cap ds a) b=cap ds (a++b):=by
 unfold cap
 rw [← List.append_assoc]
 generalize ds++a=l
 rw [List.take_append,List.take_append,List.take_take,Nat.min_self,List.length_take]
 by_cases h:l.length≤20
 · rw [Nat.min_eq_right h]
 · rw [Nat.min_eq_left (by omega),show 20 - 20=0 by omega,show 20 - l.length=0 by omega]
theorem FU {ds:List Dg} (h:ds.length≤20):cap ds []=ds:=by
 unfold cap
 rw [List.append_nil,List.take_of_length_le h]
theorem Gs (ds r:List Dg):(cap ds r).length≤20:=by unfold cap;rw [List.length_take];omega
theorem OT {ds:List Dg} (h:ds.length≤20) (e at_:Int):L8 e at_ ds=cap ds [⟨e,at_⟩]:=by
 unfold L8 cap
 by_cases h2:ds.length < 20
 · rw [if_pos h2,List.take_of_length_le (by simp;omega)]
 · rw [if_neg h2,List.take_append,List.take_of_length_le h,show 20 - ds.length=0 by omega]
   simp
noncomputable def KG (F:ByteArray→ByteArray) (A:Int→ByteArray) (n:Nd) (us:List ByteArray):ByteArray :=
 AO (n.kind=11) n.unit (AO (n.kind=12) (F n.name) (AO (n.kind=13) (A n.n) (AO (n.kind=14) By
   (AO (n.kind=15) (IQ IK us) (AO (n.kind=16) (IQ n.name us) (AO (n.kind=17) (IQ K6 us) (AO (n.kind=18) (AO (Nz (us.headD eS)) (us.headD eS) eS) eS)))))))
noncomputable def fL (F:ByteArray→ByteArray) (A:Int→ByteArray) (n:Nd) (r:List ByteArray×List Dg):ByteArray×List Dg :=
 AO (∀ u∈r.1,u≠eS) (AO (KG F A n r.1=eS) (KG F A n r.1,r.2++[⟨Mw n,n.att⟩]) (KG F A n r.1,r.2)) (eS,r.2)
mutual
noncomputable def M9 (F:ByteArray→ByteArray) (A:Int→ByteArray):Nd→ByteArray×List Dg
 | ⟨kind,name,unit,n,fr,to,known,tab,kids,att⟩=>fL F A ⟨kind,name,unit,n,fr,to,known,tab,kids,att⟩ (Ki F A kids)
noncomputable def Ki (F:ByteArray→ByteArray) (A:Int→ByteArray):List Nd→List ByteArray×List Dg
 | []=>([],[])
 | k::ks=>((M9 F A k).1::(Ki F A ks).1,(M9 F A k).2++(Ki F A ks).2)
end
theorem T1 (F:ByteArray→ByteArray) (A:Int→ByteArray) (n:Nd):M9 F A n=fL F A n (Ki F A n.kids):=by cases n;rw [M9]
theorem Ox (F:ByteArray→ByteArray) (A:Int→ByteArray):∀ l:List Nd,Ki F A l=(l.map fun k=>(M9 F A k).1,l.flatMap fun k=>(M9 F A k).2)
 | []=>by rw [Ki];rfl
 | k::l=>by rw [Ki,Ox F A l];rfl
noncomputable def FS (s:Sc) (x:ByteArray):ByteArray:=(s.facts.get x).getD eS
noncomputable def TE (s:Sc) (z:Int):ByteArray:=(s.lines.get ((s.Ah.get z).getD eS)).getD eS
theorem Kx {s:Sc}:∀ {l:List Nd},(∀ k∈l,∀ ds:List Dg,ds.length≤20→CQ s k ds=((M9 (FS s) (TE s) k).1,cap ds (M9 (FS s) (TE s) k).2))→∀ ds:List Dg,ds.length≤20→Dd s l ds=((Ki (FS s) (TE s) l).1,cap ds (Ki (FS s) (TE s) l).2)
 | [],_,ds,h=>by rw [Dd,Ki,FU h]
 | a::l,hk,ds,h=>by
   rw [Dd,Ki,hk a (by simp) ds h]
   dsimp only
   rw [Kx (fun k h'=>hk k (by simp [h'])) _ (Gs _ _),HY]
theorem Sx (s:Sc):∀ (m:Nat) (n:Nd),Dp n≤m→∀ ds:List Dg,ds.length≤20→CQ s n ds=((M9 (FS s) (TE s) n).1,cap ds (M9 (FS s) (TE s) n).2):=by
 intro m
 induction m with
 | zero=>intro n h;have:=Cf n;omega
 | succ m ih =>
   intro n hn ds hd
   have hsz:=Cf n
   rw [Qi,T1,Kx (fun k hk=>ih k (by have:=EP hk;omega)) ds hd]
   unfold bC fL
   show AO _ (AO (KG (FS s) (TE s) n _=eS) (KG (FS s) (TE s) n _,_) (KG (FS s) (TE s) n _,_)) _=_
   by_cases hu:∀ u∈(Ki (FS s) (TE s) n.kids).1,u≠eS
   · rw [Ag hu,Ag hu]
     by_cases hU:KG (FS s) (TE s) n (Ki (FS s) (TE s) n.kids).1=eS
     · rw [Ag hU,Ag hU]
       dsimp only
       rw [OT (Gs _ _),HY]
     · rw [Af hU,Af hU]
   · rw [Af hu,Af hu]
theorem WQ (s:Sc) (n:Nd) {ds:List Dg} (h:ds.length≤20):CQ s n ds=((M9 (FS s) (TE s) n).1,cap ds (M9 (FS s) (TE s) n).2):=Sx s (Dp n) n (Nat.le_refl _) ds h
noncomputable def fact (src:Nd) (x:ByteArray):ByteArray:=(fU 2 src.kids x).getD eS
noncomputable def line (src:Nd) (x:ByteArray):ByteArray:=(fU 3 src.kids x).getD eS
noncomputable def uO (src:Nd) (z:Int):ByteArray:=line src ((fA src.kids z).getD eS)
theorem lE (src:Nd):FS (QW src)=fact src:=funext fun x=>by unfold FS fact;rw [X3]
theorem l4 (src:Nd):TE (QW src)=uO src:=funext fun z=>by unfold TE uO line;rw [OF,Rx]
noncomputable def Sd (src n:Nd):ByteArray×List Dg:=M9 (fact src) (uO src) n
theorem Qz (src n:Nd) {ds:List Dg} (h:ds.length≤20):CQ (QW src) n ds=((Sd src n).1,cap ds (Sd src n).2):=by
 rw [WQ _ _ h,lE,l4];rfl
theorem Nq (src e:Nd):Km src e=AO ((src.kind=1∧e.kind≠1)∧LM src∧LM e) ((Sd src e).1,cap [] (Sd src e).2) (eS,[⟨1,e.att⟩]):=by
 unfold Km
 rw [Qz src e (by simp)]
noncomputable def J0 (before:List Nd) (a:Nd):List Dg :=
 AO (a.kind=2∨a.kind=3) (AO (∃ b∈before,b.kind=a.kind∧b.name=a.name) [⟨5,a.att⟩] (AO (32≤Bi a.kind before) [⟨2,a.att⟩] (AO (a.kind=3∧(a.unit=A3∨(a.n≠4∧¬ Nz a.unit))) [⟨11,a.att⟩] []))) []
noncomputable def Hl:List Nd→List Nd→List Dg
 | _,[]=>[]
 | b,a::l=>J0 b a++Hl (b++[a]) l
noncomputable def Hw (src:Nd) (c:Nat) (a:Nd):List Dg :=
 AO (60≤c) [⟨2,a.att⟩] (AO (fU 3 src.kids a.name=none) [⟨91,a.att⟩] (AO ((fA src.kids a.n).getD eS≠a.name) [⟨101,a.att⟩] []))
noncomputable def Fo (src a k:Nd):List Dg:=AO (k.n=a.n) [⟨101,k.att⟩] (AO (fA src.kids k.n=none) [⟨91,k.att⟩] [])
noncomputable def QX (src:Nd) (w:ByteArray) (k:Nd):List Dg:=(Sd src k).2++AO ((Sd src k).1≠eS∧w≠eS∧(Sd src k).1≠w) [⟨11,k.att⟩] []
noncomputable def Ic (src a x:Nd):List Dg :=
 AO (x.kind=7) (x.kids.flatMap (Fo src a)) (x.kids.flatMap (QX src (AO (x.kind=6) A3 (line src a.name))))
noncomputable def YT (src:Nd) (c:Nat) (a:Nd):List Dg:=AO (a.kind=4) (Hw src c a++a.kids.tail.flatMap (Ic src a)) []
noncomputable def K9 (src:Nd):Nat→List Nd→List Dg
 | _,[]=>[]
 | c,a::l=>YT src c a++K9 src (c+Bi 4 [a]) l
noncomputable def Yi (src:Nd):List Dg:=Hl [] src.kids++K9 src 0 src.kids
noncomputable def Lx (src:Nd):List Dg:=AO (src.kind=1∧LM src) (cap [] (Yi src)) [⟨1,0⟩]
end Mo
end Go.Proofs.YtkfplcngmiljaaaGreatDoor

namespace Go.Proofs.YtkfplcngmiljaaaGreatDoor
open AI Go
namespace Mo
set_option maxRecDepth 100000
set_option maxHeartbeats 4000000
theorem PD (k:Int) (l m:List Nd):Bi k (l++m)=Bi k l+Bi k m:=by
 induction l with
 | nil=>simp [Bi]
 | cons a l ih=>simp only [List.cons_append,Bi,ih];omega
theorem MK {ds:List Dg} (h:ds.length≤20) (e at_:Int):An e at_ ds=some ((),cap ds [⟨e,at_⟩]):=by rw [S1,OT h]
structure Rz (b:List Nd) (w5:Mm ByteArray Bool) (w2:Mm Int Int) (w4:Mm ByteArray Bool):Prop where
 lines:∀ x,((w5.get x).getD false=true)↔∃ a∈b,a.kind=3∧a.name=x
 facts:∀ x,((w4.get x).getD false=true)↔∃ a∈b,a.kind=2∧a.name=x
 Ob:∀ k,k=2∨k=3→(w2.get k).getD 0=((Bi k b:Nat):Int)
theorem Ym:Rz [] Mm.nil Mm.nil Mm.nil:=⟨fun x=>by simp [Mm.get_nil],fun x=>by simp [Mm.get_nil],fun k _=>by simp [Mm.get_nil,Bi]⟩
theorem V9 {b:List Nd} {w5:Mm ByteArray Bool} {w2:Mm Int Int} {w4:Mm ByteArray Bool} (h:Rz b w5 w2 w4) {a:Nd} (ha:a.kind=4):Rz (b++[a]) w5 w2 w4:=by
 refine ⟨fun x=>(h.lines x).trans ?_,fun x=>(h.facts x).trans ?_,fun k hk=>(h.Ob k hk).trans ?_⟩
 · simp only [List.mem_append,List.mem_singleton]
   constructor
   · rintro ⟨c,hc,e⟩;exact ⟨c,.inl hc,e⟩
   · rintro ⟨c,hc | rfl,e⟩
     · exact ⟨c,hc,e⟩
     · omega
 · simp only [List.mem_append,List.mem_singleton]
   constructor
   · rintro ⟨c,hc,e⟩;exact ⟨c,.inl hc,e⟩
   · rintro ⟨c,hc | rfl,e⟩
     · exact ⟨c,hc,e⟩
     · omega
 · rw [PD]
   simp only [Bi]
   rw [if_neg (by omega)]
   simp
theorem Wo {b:List Nd} {w5:Mm ByteArray Bool} {w2:Mm Int Int} {w4:Mm ByteArray Bool} (h:Rz b w5 w2 w4) {a:Nd} (ha:a.kind=3) (hb:b.length < 9223372036854775807):Rz (b++[a]) (w5.set a.name true) (w2.set a.kind (BK ((w2.get a.kind).getD 0) 1)) w4:=by
 have hc:=L4 3 b
 refine ⟨fun x=>?_,fun x=>(h.facts x).trans ?_,fun k hk=>?_⟩
 · rw [Mm.Fi]
   simp only [List.mem_append,List.mem_singleton]
   by_cases e:x=a.name
   · rw [if_pos e]
     exact ⟨fun _=>⟨a,.inr rfl,ha,e.symm⟩,fun _=>rfl⟩
   · rw [if_neg e,h.lines x]
     constructor
     · rintro ⟨c,hc,q⟩;exact ⟨c,.inl hc,q⟩
     · rintro ⟨c,hc | rfl,q⟩
       · exact ⟨c,hc,q⟩
       · exact absurd q.2.symm e
 · simp only [List.mem_append,List.mem_singleton]
   constructor
   · rintro ⟨c,hc,e⟩;exact ⟨c,.inl hc,e⟩
   · rintro ⟨c,hc | rfl,e⟩
     · exact ⟨c,hc,e⟩
     · omega
 · rw [Mm.Fi,ha,PD]
   simp only [Bi,ha]
   rcases hk with rfl | rfl
   · rw [if_neg (by decide),h.Ob 2 (.inl rfl),if_neg (by decide)];simp
   · rw [if_pos rfl,h.Ob 3 (.inr rfl),if_pos rfl]
     simp only [Option.getD_some]
     rw [C0 (by omega)];omega
theorem WJ {b:List Nd} {w5:Mm ByteArray Bool} {w2:Mm Int Int} {w4:Mm ByteArray Bool} (h:Rz b w5 w2 w4) {a:Nd} (ha:a.kind=2) (hb:b.length < 9223372036854775807):Rz (b++[a]) w5 (w2.set a.kind (BK ((w2.get a.kind).getD 0) 1)) (w4.set a.name true):=by
 have hc:=L4 2 b
 refine ⟨fun x=>(h.lines x).trans ?_,fun x=>?_,fun k hk=>?_⟩
 · simp only [List.mem_append,List.mem_singleton]
   constructor
   · rintro ⟨c,hc,e⟩;exact ⟨c,.inl hc,e⟩
   · rintro ⟨c,hc | rfl,e⟩
     · exact ⟨c,hc,e⟩
     · omega
 · rw [Mm.Fi]
   simp only [List.mem_append,List.mem_singleton]
   by_cases e:x=a.name
   · rw [if_pos e]
     exact ⟨fun _=>⟨a,.inr rfl,ha,e.symm⟩,fun _=>rfl⟩
   · rw [if_neg e,h.facts x]
     constructor
     · rintro ⟨c,hc,q⟩;exact ⟨c,.inl hc,q⟩
     · rintro ⟨c,hc | rfl,q⟩
       · exact ⟨c,hc,q⟩
       · exact absurd q.2.symm e
 · rw [Mm.Fi,ha,PD]
   simp only [Bi,ha]
   rcases hk with rfl | rfl
   · rw [if_pos rfl,h.Ob 2 (.inl rfl),if_pos rfl]
     simp only [Option.getD_some]
     rw [C0 (by omega)];omega
   · rw [if_neg (by decide),h.Ob 3 (.inr rfl),if_neg (by decide)];simp
theorem Oz:∀ {l b:List Nd} {i:Nat} {w5:Mm ByteArray Bool} {w2:Mm Int Int} {w4:Mm ByteArray Bool} {ds:List Dg},Rz b w5 w2 w4→(∀ a∈l,a.kind=2∨a.kind=3∨a.kind=4)→b.length+l.length≤9223372036854775807→ds.length≤20 →
   ∃ x5 x2 x4,AT (fun i y x=>Bo i y x.1 x.2.1 x.2.2.1 x.2.2.2) (fun x=>(x.1,x.2.1,x.2.2.1,x.2.2.2)) l i (w5,w2,ds,w4)=(some (.inl (x5,x2,cap ds (Hl b l),x4)):Option ((Mm ByteArray Bool×Mm Int Int×List Dg×Mm ByteArray Bool)⊕(Unit×List Dg)))
 | [],b,i,w5,w2,w4,ds,_,_,_,hd=>⟨w5,w2,w4,by rw [Hl,FU hd];rfl⟩
 | a::l,b,i,w5,w2,w4,ds,hI,hk,hl,hd=>by
   simp only [List.length_cons] at hl
   have next:∀ {x5:Mm ByteArray Bool} {x2:Mm Int Int} {x4:Mm ByteArray Bool} {d2:List Dg},Rz (b++[a]) x5 x2 x4→d2=cap ds (J0 b a) →
       ∃ y5 y2 y4,(some (Lp.nx (x5,x2,d2,x4))).bind (GH (AT (fun i y x=>Bo i y x.1 x.2.1 x.2.2.1 x.2.2.2) (fun x=>(x.1,x.2.1,x.2.2.1,x.2.2.2)) l (i+1)))=(some (.inl (y5,y2,cap ds (Hl b (a::l)),y4)):Option ((Mm ByteArray Bool×Mm Int Int×List Dg×Mm ByteArray Bool)⊕(Unit×List Dg))):=by
     rintro x5 x2 x4 d2 h rfl
     obtain ⟨y5,y2,y4,e⟩:=Oz (l:=l) (b:=b++[a]) (i:=i+1) (w5:=x5) (w2:=x2) (w4:=x4) (ds:=cap ds (J0 b a)) h (fun k hk'=>hk k (by simp [hk'])) (by simp;omega) (Gs _ _)
     exact ⟨y5,y2,y4,by rw [Hl,← HY];exact e⟩
   rw [AT,Bo]
   simp only [Bk,Ej,Cn,R8,MK hd,Option.bind_some,r6,FY]
   rcases hk a (by simp) with k2 | k3 | k4
   · rw [Af (by omega),Af (by omega),Ag k2]
     have hI':=WJ hI k2 (by omega)
     have ed:∀ {x y:List Dg},J0 b a=AO (∃ c∈b,c.kind=2∧c.name=a.name) [⟨5,a.att⟩] (AO (32≤Bi 2 b) [⟨2,a.att⟩] []):=by
       intro _ _
       unfold J0
       rw [Ag (.inl k2),k2]
       congr 2
       exact Af fun q=>by omega
     by_cases h5:((w4.get a.name).getD false=true)
     · rw [Ag h5]
       refine next hI' ?_
       rw [ed (x:=[]) (y:=[]),Ag ((hI.facts _).1 h5)]
     · rw [Af h5]
       have hn:=fun q=>h5 ((hI.facts _).2 q)
       rw [Mm.Fi,if_pos rfl,k2,hI.Ob 2 (.inl rfl)]
       simp only [Option.getD_some]
       have hc:=L4 2 b
       rw [C0 (by omega)]
       by_cases h32:32≤Bi 2 b
       · rw [Ag (by omega)]
         rw [k2,hI.Ob 2 (.inl rfl),C0 (by omega)] at hI'
         refine next hI' ?_
         rw [ed (x:=[]) (y:=[]),Af hn,Ag h32]
       · rw [Af (by omega)]
         rw [k2,hI.Ob 2 (.inl rfl),C0 (by omega)] at hI'
         refine next hI' ?_
         rw [ed (x:=[]) (y:=[]),Af hn,Af h32,FU hd]
   · rw [Af (by omega),Ag k3]
     have hI':=Wo hI k3 (by omega)
     have ed:∀ {x y:List Dg},J0 b a=AO (∃ c∈b,c.kind=3∧c.name=a.name) [⟨5,a.att⟩] (AO (32≤Bi 3 b) [⟨2,a.att⟩] (AO (a.unit=A3∨(a.n≠4∧¬ Nz a.unit)) [⟨11,a.att⟩] [])):=by
       intro _ _
       unfold J0
       rw [Ag (.inr k3),k3]
       simp only [true_and]
     by_cases h5:((w5.get a.name).getD false=true)
     · rw [Ag h5]
       refine next hI' ?_
       rw [ed (x:=[]) (y:=[]),Ag ((hI.lines _).1 h5)]
     · rw [Af h5]
       have hn:=fun q=>h5 ((hI.lines _).2 q)
       rw [Mm.Fi,if_pos rfl,k3,hI.Ob 3 (.inr rfl)]
       simp only [Option.getD_some]
       have hc:=L4 3 b
       rw [C0 (by omega)]
       rw [k3,hI.Ob 3 (.inr rfl),C0 (by omega)] at hI'
       by_cases h32:32≤Bi 3 b
       · rw [Ag (by omega)]
         refine next hI' ?_
         rw [ed (x:=[]) (y:=[]),Af hn,Ag h32]
       · rw [Af (by omega)]
         by_cases ht:a.unit=A3
         · rw [Ag ht]
           refine next hI' ?_
           rw [ed (x:=[]) (y:=[]),Af hn,Af h32,Ag (.inl ht)]
         · rw [Af ht]
           by_cases h4:a.n=4
           · rw [Ag h4]
             refine next hI' ?_
             rw [ed (x:=[]) (y:=[]),Af hn,Af h32,Af (fun q=>q.elim ht fun r=>r.1 h4),FU hd]
           · rw [Af h4]
             by_cases hc2:Nz a.unit
             · rw [Ag hc2]
               refine next hI' ?_
               rw [ed (x:=[]) (y:=[]),Af hn,Af h32,Af (fun q=>q.elim ht fun r=>r.2 hc2),FU hd]
             · rw [Af hc2]
               refine next hI' ?_
               rw [ed (x:=[]) (y:=[]),Af hn,Af h32,Ag (.inr ⟨h4,hc2⟩)]
   · rw [Ag k4]
     refine next (V9 hI k4) ?_
     have:J0 b a=[]:=by unfold J0;rw [Af (by omega)]
     rw [this,FU hd]
theorem cY {n:Nd} (hok:CX n) (hk:∀ a∈n.kids,a.kind=2∨a.kind=3∨a.kind=4):BP n []=some ((),cap [] (Hl [] n.kids)):=by
 obtain ⟨hps,hkl,hks⟩:=En hok
 obtain ⟨x5,x2,x4,e⟩:=Oz (l:=n.kids) (b:=[]) (i:=0) (ds:=[]) Ym hk (by simp;omega) (by simp)
 rw [BP,Fa hkl,List.drop_zero,e]
 rfl
theorem NB {src a:Nd}:∀ {l:List Nd} {i:Nat} {ds:List Dg},ds.length≤20→AT (fun i y x=>Bm (QW src) a i y x) (fun x=>x) l i ds=(some (.inl (cap ds (l.flatMap (Fo src a)))):Option (List Dg⊕(Unit×List Dg)))
 | [],i,ds,hd=>by rw [List.flatMap_nil,FU hd];rfl
 | k::l,i,ds,hd=>by
   rw [AT,Bm,List.flatMap_cons,← HY]
   simp only [Bk,MK hd,Option.bind_some,r6,FY,Rx]
   have next:∀ {d2:List Dg},d2=cap ds (Fo src a k)→(some (Lp.nx d2)).bind (GH (AT (fun i y x=>Bm (QW src) a i y x) (fun x=>x) l (i+1)))=(some (.inl (cap (cap ds (Fo src a k)) (l.flatMap (Fo src a)))):Option (List Dg⊕(Unit×List Dg))):=by
     rintro _ rfl
     exact NB (Gs _ _)
   unfold Fo
   by_cases h:k.n=a.n
   · rw [Ag h]
     have:=next (d2:=cap ds [⟨101,k.att⟩]) (by unfold Fo;rw [Ag h])
     unfold Fo at this
     rw [Ag h] at this ⊢
     exact this
   · rw [Af h]
     by_cases h2:(fA src.kids k.n).isSome=true
     · rw [Ag h2]
       have hn:¬ fA src.kids k.n=none:=fun e=>by rw [e] at h2;cases h2
       have:=next (d2:=ds) (by unfold Fo;rw [Af h,Af hn,FU hd])
       unfold Fo at this
       rw [Af h] at this ⊢
       exact this
     · rw [Af h2]
       have hn:fA src.kids k.n=none:=by simpa using h2
       have:=next (d2:=cap ds [⟨91,k.att⟩]) (by unfold Fo;rw [Af h,Ag hn])
       unfold Fo at this
       rw [Af h] at this ⊢
       exact this
theorem ZE {src a x:Nd} (hok:CX x) (hc:Bp x) (hs:Dp x≤2000) (h68:x.kind=6∨x.kind=7∨x.kind=8) {ds:List Dg} (hd:ds.length≤20):AU (QW src) a x ds=some ((),cap ds (Ic src a x)):=by
 obtain ⟨hps,hkl,hks⟩:=En hok
 rw [AU]
 simp only [Bk,Cn,r6,FY,OF]
 unfold Ic
 by_cases k7:x.kind=7
 · rw [Ag k7,Ag k7,Fa hkl,List.drop_zero,NB hd];rfl
 rw [Af k7,Af k7]
 obtain ⟨h1,h2⟩:=hc.2.2 k7
 have hsz:=Cf x
 generalize x.kids=ks at *
 match ks,h1 with
 | [k],_ =>
 have hek:=h2 k (by simp)
 have hsk:Dp k≤2000:=by simp [G6] at hsz;omega
 simp only [List.getElem?_cons_zero,Option.bind_some,List.flatMap_cons,List.flatMap_nil,List.append_nil]
 rw [VG hek hsk,Qz src k hd]
 simp only [Option.bind_some]
 rw [MK (Gs _ _)]
 simp only [Option.bind_some,HY]
 have key:∀ w:ByteArray,AO ((Sd src k).1=ByteArray.empty) (some ((),cap ds (Sd src k).2)) (AO (w=ByteArray.empty) (some ((),cap ds (Sd src k).2)) (AO ((Sd src k).1=w) (some ((),cap ds (Sd src k).2)) (some ((),cap ds ((Sd src k).2++[⟨11,k.att⟩])))))=some ((),cap ds (QX src w k)):=by
   intro w
   unfold QX
   by_cases a1:(Sd src k).1=eS
   · rw [Ag a1,Af fun q=>q.1 a1,List.append_nil]
   rw [Af a1]
   by_cases a2:w=eS
   · rw [Ag a2,Af fun q=>q.2.1 a2,List.append_nil]
   rw [Af a2]
   by_cases a3:(Sd src k).1=w
   · rw [Ag a3,Af fun q=>q.2.2 a3,List.append_nil]
   rw [Af a3,Ag ⟨a1,a2,a3⟩]
 by_cases k6:x.kind=6
 · rw [Ag k6,Ag k6];exact key A3
 · rw [Af k6,Af k6];exact key (line src a.name)
theorem Mu {src a:Nd} {body:Nat→Nd→List Dg→Option (Lp (List Dg) (List Dg) (List Dg))} (hb:∀ i y x,body i y x=(AU (QW src) a y x).bind fun (_,b)=>some (.nx b)) :
   ∀ {l:List Nd} {i:Nat} {ds:List Dg},(∀ x∈l,CX x∧Bp x∧Dp x≤2000∧(x.kind=6∨x.kind=7∨x.kind=8))→ds.length≤20→AT body (fun x=>x) l i ds=(some (.inl (cap ds (l.flatMap (Ic src a)))):Option (List Dg⊕List Dg))
 | [],i,ds,_,hd=>by rw [List.flatMap_nil,FU hd];rfl
 | x::l,i,ds,h,hd=>by
   obtain ⟨h1,h2,h3,h4⟩:=h x (by simp)
   rw [AT,hb,ZE h1 h2 h3 h4 hd,List.flatMap_cons,← HY]
   exact Mu hb (fun y hy=>h y (by simp [hy])) (Gs _ _)
theorem M5 {src:Nd}:∀ {l:List Nd} {i:Nat} {c:Nat} {ds:List Dg},(∀ a∈l,CX a∧F4 a∧Dp a≤2000)→c+l.length≤9223372036854775807→ds.length≤20→∃ z,AT (fun i y x=>Ec (QW src) i y x.1 x.2) (fun x=>x.2) l i (((c:Nat):Int),ds)=(some (.inl z):Option (List Dg⊕List Dg))∧z=cap ds (K9 src c l)
 | [],i,c,ds,_,_,hd=>⟨ds,rfl,by rw [K9,FU hd]⟩
 | a::l,i,c,ds,h,hc,hd=>by
   simp only [List.length_cons] at hc
   obtain ⟨hok,hit,hsz⟩:=h a (by simp)
   obtain ⟨hps,hkl,hks⟩:=En hok
   rw [AT,Ec,K9,← HY]
   simp only [Bk,Ej,Cn,r6,FY,MK hd,Option.bind_some,OF,Rx]
   unfold YT
   by_cases k4:a.kind=4
   rotate_left
   · rw [Af k4,Af k4,FU hd]
     have e:c+Bi 4 [a]=c:=by simp [Bi,k4]
     rw [e]
     exact M5 (fun y hy=>h y (by simp [hy])) (by omega) hd
   rw [Ag k4,Ag k4]
   obtain ⟨_,_,_,x,cs,hkids,hkin,_,_,_,hcl⟩:=(uB k4).1 hit
   have e:c+Bi 4 [a]=c+1:=by simp [Bi,k4]
   rw [e]
   have hcs:∀ y∈cs,CX y∧Bp y∧Dp y≤2000∧(y.kind=6∨y.kind=7∨y.kind=8):=by
     intro y hy
     have hm:y∈a.kids:=by rw [hkids];simp [hy]
     have:=hkin y hy
     exact ⟨hks y hm,hcl y hy,by have:=MM hm;omega,by omega⟩
   have hsub:JT a.kids 1 ((a.kids.length:Nat):Int)=some cs:=by
     unfold JT
     rw [hkids,if_pos (by simp only [List.length_cons];omega)]
     simp
   have hcl':cs.length≤9223372036854775807:=by rw [hkids] at hkl;simp at hkl;omega
   rw [hsub]
   simp only [Option.bind_some,List.drop_zero,Fa hcl']
   rw [C0 (by omega)]
   have htail:a.kids.tail=cs:=by rw [hkids];rfl
   rw [htail]
   have next:∀ {body:Nat→Nd→List Dg→Option (Lp (List Dg) (List Dg) (List Dg))} {d0:List Dg},(∀ i y x,body i y x=(AU (QW src) a y x).bind fun (_,b)=>some (.nx b))→d0=cap ds (Hw src c a) →
       ∃ z,(((AT body (fun x=>x) cs 0 d0).bind (GF (fun (w:List Dg)=>some (Lp.nx (((c:Nat):Int)+1,w))) (fun v=>some (.rt v)))).bind (GH (AT (fun i y x=>Ec (QW src) i y x.1 x.2) (fun x=>x.2) l (i+1))))=(some (.inl z):Option (List Dg⊕List Dg))∧z=cap (cap ds (Hw src c a++cs.flatMap (Ic src a))) (K9 src (c+1) l):=by
     rintro body _ hb rfl
     rw [Mu hb hcs (Gs _ _),HY]
     have ih:=M5 (src:=src) (l:=l) (i:=i+1) (c:=c+1) (ds:=cap ds (Hw src c a++cs.flatMap (Ic src a))) (fun y hy=>h y (by simp [hy])) (by omega) (Gs _ _)
     rw [show (((c+1:Nat)):Int)=((c:Nat):Int)+1 by omega] at ih
     exact ih
   unfold Hw
   by_cases hl:(fU 3 src.kids a.name).isSome=true
   · have hn:¬ fU 3 src.kids a.name=none:=fun e=>by rw [e] at hl;cases hl
     rw [Ag hl]
     by_cases h60:60≤c
     · rw [Ag (by omega),Ag h60]
       have:=next (body:=fun i y x=>GC (QW src) a i y x) (d0:=cap ds [⟨2,a.att⟩]) (fun i y x=>rfl) (by unfold Hw;rw [Ag h60])
       unfold Hw at this
       rw [Ag h60] at this
       exact this
     · rw [Af (by omega),Af h60,Af hn]
       by_cases hA:(fA src.kids a.n).getD ByteArray.empty=a.name
       · rw [Ag hA]
         have:=next (body:=fun i y x=>Gn (QW src) a i y x) (d0:=ds) (fun i y x=>rfl) (by unfold Hw;rw [Af h60,Af hn,Af (fun q=>q hA),FU hd])
         unfold Hw at this
         rw [Af h60,Af hn] at this
         exact this
       · rw [Af hA]
         have:=next (body:=fun i y x=>GB (QW src) a i y x) (d0:=cap ds [⟨101,a.att⟩]) (fun i y x=>rfl) (by unfold Hw;rw [Af h60,Af hn,Ag hA])
         unfold Hw at this
         rw [Af h60,Af hn] at this
         exact this
   · have hn:fU 3 src.kids a.name=none:=by simpa using hl
     rw [Af hl]
     by_cases h60:60≤c
     · rw [Ag (by omega),Ag h60]
       have:=next (body:=fun i y x=>Gd (QW src) a i y x) (d0:=cap ds [⟨2,a.att⟩]) (fun i y x=>rfl) (by unfold Hw;rw [Ag h60])
       unfold Hw at this
       rw [Ag h60] at this
       exact this
     · rw [Af (by omega),Af h60,Ag hn]
       have:=next (body:=fun i y x=>GA (QW src) a i y x) (d0:=cap ds [⟨91,a.att⟩]) (fun i y x=>rfl) (by unfold Hw;rw [Af h60,Ag hn])
       unfold Hw at this
       rw [Af h60,Ag hn] at this
       exact this
theorem eI {n:Nd} (h:LM n) (hk:n.kind=1):CZ n z0∧(∀ k∈n.kids,F4 k)∧Dp n≤2000∧JC n≤40:=by
 obtain ⟨a | a,b⟩:=h
 · exact ⟨a.2.1,a.2.2,b⟩
 · exact absurd hk a.1
theorem UO {src:Nd} (hs:CX src):EC src=some (Lx src):=by
 obtain ⟨hps,hkl,hks⟩:=En hs
 rw [EC,Rb hs,Vh hs]
 simp only [Option.bind_some,Bk,Bs]
 unfold Lx
 by_cases k1:src.kind=1
 rotate_left
 · rw [Af k1,Af fun q=>k1 q.1]
 rw [Ag k1]
 by_cases v:LM src
 rotate_left
 · rw [Af v,Af fun q=>v q.2]
 rw [Ag v,Ag ⟨k1,v⟩]
 obtain ⟨_,hit,hsz,_⟩:=eI v k1
 have hkind:∀ a∈src.kids,a.kind=2∨a.kind=3∨a.kind=4:=fun a ha=>RN (hit a ha)
 rw [show De=some () from rfl,cY hs hkind]
 simp only [Option.bind_some]
 rw [Fa hkl,List.drop_zero]
 obtain ⟨z,e,rfl⟩:=M5 (src:=src) (l:=src.kids) (i:=0) (c:=0) (ds:=cap [] (Hl [] src.kids)) (fun a ha=>⟨hks a ha,hit a ha,by have:=MM ha;omega⟩) (by omega) (Gs _ _)
 have e':(((0:Nat):Int))=0:=rfl
 rw [e'] at e
 rw [e,HY]
 rfl
end Mo
end Go.Proofs.YtkfplcngmiljaaaGreatDoor

namespace Go.Proofs.YtkfplcngmiljaaaGreatDoor
open AI Go
namespace Mo
set_option maxRecDepth 100000
set_option maxHeartbeats 4000000
theorem Ve (c:Int):ED c=some (mb (97≤c∧c≤122)):=by
 rw [ED];simp only [FD,Bs,F9,D6]
theorem aV (c:Int):FM c=some (mb (48≤c∧c≤57)):=by
 rw [FM];simp only [FD,Bs,F9,D6]
theorem dP (c:Int):DW c=some (mb (65≤c∧c≤90)):=by
 rw [DW];simp only [FD,Bs,F9,D6]
theorem Iv (n a b:Int):AQ n a b=some (mb (a≤n∧n≤b)):=by
 rw [AQ];simp only [FD,Bs,F9,D6]
theorem jT (l:List ByteArray) (s:ByteArray) (hl:l.length≤9223372036854775807):Fc l s=some (mb (s∈l)):=by
 unfold Fc
 rw [GR (v:=true) (P:=fun _ y=>¬ y=s) hl (fun i y _=>by
   unfold IW
   simp only [Cn,Bs,TR])]
 simp only [tD]
 refine JN ?_
 constructor
 · intro h
   exact Classical.byContradiction fun hn=>h fun i y hy e=>hn (e▸List.mem_of_getElem? hy)
 · intro h hn
   obtain ⟨i,hi⟩:=List.getElem?_of_mem h
   exact hn i s hi rfl
theorem gX (s:ByteArray):EW s=some (mb (UC s)):=by
 rw [EW,Bk,Bs]
 unfold UC
 by_cases h:s.data.toList.length=3
 · rw [Ag (by omega)]
   generalize s.data.toList=l at h
   match l,h with
   | [a,b,c],_ =>
     simp only [List.getElem?_cons_zero,List.getElem?_cons_succ,Option.bind_some,dP,Bs,D6]
     refine JN ?_
     simp only [List.length_cons,List.length_nil,List.mem_cons,List.not_mem_nil,or_false,true_and,forall_eq_or_imp,forall_eq]
     omega
 · rw [Af (by omega)]
   exact GK fun q=>h q.1
theorem Zs (s:ByteArray):Fh s=some (mb (Fw s)):=by
 rw [Fh]
 simp only [Ej,Bs]
 unfold Fw
 by_cases h0:((s.data.toList.length:Nat):Int) < 1
 · rw [Ag h0];exact GK fun h=>by omega
 rw [Af h0]
 by_cases h1:16 < ((s.data.toList.length:Nat):Int)
 · rw [Ag h1];exact GK fun h=>by omega
 rw [Af h1]
 obtain ⟨b,hb⟩:∃ b,s.data.toList[0]?=some b:=⟨_,List.getElem?_eq_getElem (by omega)⟩
 rw [hb,show H5=some Tg from rfl]
 simp only [Option.bind_some,Ve,Bs]
 rw [jT _ _ (by decide),GR (v:=false) (P:=fun _ y=>Qu y) (by omega) (fun i y _=>by
   simp only [Ha,Ve,aV,Option.bind_some,Bs,Bk,R3,tT]
   congr 2
   unfold Qu
   apply propext
   omega)]
 simp only [Option.bind_some,Bs,F9,dS,D6,Ly]
 refine JN ?_
 constructor
 · rintro ⟨h3,h5,h6⟩
   exact ⟨by omega,⟨b,rfl,by omega⟩,h5,h6⟩
 · rintro ⟨h3,⟨c,hc,h4⟩,h5,h6⟩
   cases hc
   exact ⟨by omega,h5,h6⟩
def zD (n:Nd):Prop:=n.fr=0∧n.to=0∧n.known=0
def zT (n:Nd):Prop:=n.tab.den=0∧n.tab.ps=[]
theorem Rr {α:Type} (l:List α):(((l.length:Nat):Int)=0)=(l=[]):=propext ⟨fun h=>List.eq_nil_of_length_eq_zero (by omega),fun h=>by rw [h];rfl⟩
section
variable (n:Nd)
theorem RV:CY n=some (mb (n.name=eS∧n.unit=eS∧n.n=0∧zD n∧zT n)):=by
 rw [CY];simp only [Bk,Cn,Bs,F9,D6,Rr,zD,zT];exact JN (by simp only [and_assoc])
theorem Xt:DK n=some (mb (n.name=eS∧zD n∧zT n∧n.kids=[])):=by
 rw [DK];simp only [Bk,Cn,Bs,F9,D6,Rr,zD,zT];exact JN (by simp only [and_assoc])
theorem kZ:DL n=some (mb (n.unit=eS∧n.n=0∧zD n∧zT n∧n.kids=[])):=by
 rw [DL];simp only [Bk,Cn,Bs,F9,D6,Rr,zD,zT];exact JN (by simp only [and_assoc])
theorem mF:Ez n=some (mb (n.name=eS∧n.unit=eS∧zD n∧zT n∧n.kids=[])):=by
 rw [Ez];simp only [Bk,Cn,Bs,F9,D6,Rr,zD,zT];exact JN (by simp only [and_assoc])
theorem aX:Dv n=some (mb (n.unit=eS∧n.n=0∧zD n∧zT n)):=by
 rw [Dv];simp only [Bk,Cn,Bs,F9,D6,Rr,zD,zT];exact JN (by simp only [and_assoc])
theorem cQ:Eb n=some (mb (n.name=eS∧n.unit=eS∧n.n=0∧zD n)):=by
 rw [Eb];simp only [Bk,Cn,Bs,F9,D6,zD]
theorem nX:CN n=some (mb (n.n=0∧zD n∧zT n∧n.kids=[])):=by
 rw [CN];simp only [Bk,Cn,Bs,F9,D6,Rr,zD,zT];exact JN (by simp only [and_assoc])
theorem kN:CP n=some (mb (zD n∧zT n∧n.kids=[])):=by
 rw [CP];simp only [Bk,Cn,Bs,F9,D6,Rr,zD,zT];exact JN (by simp only [and_assoc])
theorem dH:Cw n=some (mb (n.unit=eS∧zD n∧zT n)):=by
 rw [Cw];simp only [Bk,Cn,Bs,F9,D6,Rr,zD,zT];exact JN (by simp only [and_assoc])
theorem eV:Ea n=some (mb (n.name=eS∧n.unit=eS∧zT n∧n.kids=[])):=by
 rw [Ea];simp only [Bk,Cn,Bs,F9,D6,Rr,zT];exact JN (by simp only [and_assoc])
end
theorem Ui {α:Type} {l:List α}:l.length=0↔l=[]:=List.length_eq_zero_iff
theorem Oh {a d m:Int} (hd:0 < d) (h:a.tmod d=0):(-m≤a.tdiv d∧a.tdiv d≤m)↔(-(m*d)≤a∧a≤m*d):=by
 have e:d*a.tdiv d=a:=Int.mul_tdiv_cancel' (Int.dvd_of_tmod_eq_zero h)
 generalize a.tdiv d=q at *
 subst e
 constructor
 · rintro ⟨h1,h2⟩
   have a1:=Int.mul_le_mul_of_nonneg_left h1 (Int.le_of_lt hd)
   have a2:=Int.mul_le_mul_of_nonneg_left h2 (Int.le_of_lt hd)
   rw [Int.mul_neg,Int.mul_comm d m] at a1
   rw [Int.mul_comm d m] at a2
   exact ⟨a1,a2⟩
 · rintro ⟨h1,h2⟩
   rw [Int.mul_comm m d] at h1 h2
   refine ⟨Int.le_of_mul_le_mul_left ?_ hd,Int.le_of_mul_le_mul_left h2 hd⟩
   rw [Int.mul_neg];exact h1
theorem cL (f:Fn) (hf:fF f):FJ f=some (mb (Us f)):=by
 obtain ⟨hl,hpc⟩:=hf
 rw [FJ,Iv,Iv]
 simp only [Option.bind_some,Bs]
 by_cases hr:1≤f.den∧f.den≤1000000
 rotate_left
 · rw [Af hr];exact GK fun q=>hr q.1
 rw [Ag hr]
 by_cases hn:1≤((f.ps.length:Nat):Int)∧((f.ps.length:Nat):Int)≤64
 rotate_left
 · rw [Af hn];exact GK fun q=>hn ⟨by have:=q.2.1;omega,by have:=q.2.1;omega⟩
 rw [Ag hn,GR (v:=false) (P:=fun i y=>MC f i y∧(i=0→y.fr=0)) hl (fun i y hy=>by
   have hi:i < f.ps.length:=(List.getElem?_eq_some_iff.1 hy).1
   obtain ⟨_,hat,_⟩:=hpc y (List.mem_of_getElem? hy)
   have hden:f.den≠0:=by omega
   have hd0:0 < f.den:=by omega
   have hm:PT y.att f.den=some (y.att.tmod f.den):=by unfold PT lF;rw [if_neg hden]
   have hq:Zw y.att f.den=some (y.att.tdiv f.den):=by
     unfold Zw kH
     rw [if_neg hden]
     have h1:(y.att.tdiv f.den).natAbs≤y.att.natAbs:=Int.natAbs_tdiv_le_natAbs _ _
     have h3:-9223372036854775808≤y.att.tdiv f.den∧y.att.tdiv f.den≤9223372036854775807:=by
       by_cases hneg:f.den=1
       · rw [hneg,Int.tdiv_one];exact hat
       · have h2:y.att.natAbs≤9223372036854775808:=by omega
         have h4:(y.att.tdiv f.den).natAbs < 9223372036854775808:=by
           rw [Int.natAbs_tdiv]
           have h5:2≤f.den.natAbs:=by omega
           have:y.att.natAbs / f.den.natAbs≤y.att.natAbs / 2:=Nat.div_le_div_left h5 (by decide)
           have h6:y.att.natAbs / 2≤9223372036854775808 / 2:=Nat.div_le_div_right h2
           exact Nat.lt_of_le_of_lt (Nat.le_trans this h6) (by decide)
         omega
     congr 1
     have h7:=LW h3
     rw [Mk] at h7
     exact h7
   have hwm1:P5 999999999999 f.den=999999999999*f.den:=Va (by omega)
   have hwm2:P5 (-999999999999) f.den=-(999999999999*f.den):=by rw [Va (by omega)];omega
   simp only [Gg,hm,hq,Iv,Option.bind_some,Bk,Ej,FD,Bs]
   unfold MC
   rw [hm,hwm1,hwm2]
   by_cases h0:i=0
   · subst h0
     rw [Ag (show (((0:Nat):Int)=0) from rfl)]
     simp only [R3,W6,X0]
     congr 2
     apply propext
     simp only [Option.some.injEq,Nat.lt_irrefl,false_implies,implies_true,true_and]
     constructor
     · rintro ⟨a,b,c,d,e⟩
       have:=(Oh (m:=999999999999) hd0 a).1 b
       exact ⟨⟨by omega,a,this.2,this.1,c.2,c.1⟩,fun _=>e⟩
     · rintro ⟨⟨a,b,c,d,e,g⟩,h⟩
       exact ⟨b,(Oh hd0 b).2 ⟨d,c⟩,⟨g,e⟩,by omega,h trivial⟩
   · rw [Af (show ¬ (((i:Nat):Int)=0) by omega),Ag (show (0:Int) < ((i:Nat):Int) by omega),Mg (by omega)]
     obtain ⟨pv,hpq⟩:∃ pv,f.ps[i - 1]?=some pv:=⟨_,List.getElem?_eq_getElem (by omega)⟩
     have hg:RZ f.ps (((i:Nat):Int) - 1)=some pv:=by
       unfold RZ
       rw [show (((i:Nat):Int) - 1).toNat=i - 1 by omega,if_pos (by omega)]
       exact hpq
     rw [hg,hpq]
     simp only [Option.bind_some,TR,W6,X0]
     congr 2
     apply propext
     simp only [Option.some.injEq,forall_eq']
     constructor
     · rintro ⟨a,b,c,d,e⟩
       have:=(Oh (m:=999999999999) hd0 a).1 b
       exact ⟨⟨by omega,fun q _ e=>by subst e;omega,a,this.2,this.1,c.2,c.1⟩,fun q=>absurd q h0⟩
     · rintro ⟨⟨a,p,b,c,d,e,g⟩,h⟩
       exact ⟨b,(Oh hd0 b).2 ⟨d,c⟩,⟨g,e⟩,by omega,by have:=p pv (by omega) rfl;omega⟩),F9]
 refine JN ?_
 unfold Us EK
 constructor
 · intro h
   exact ⟨hr,by omega,fun x hx=>(h 0 x hx).2 rfl,fun i p hp=>(h i p hp).1⟩
 · rintro ⟨_,_,h3,h4⟩ i p hp
   exact ⟨h4 i p hp,fun e=>h3 p (by rw [← e];exact hp)⟩
theorem Yy (n:Nd):D3 n=some (mb (n.kind=11∧(n.name=eS∧zD n∧zT n∧n.kids=[])∧n.unit=By∧EK n.n)):=by
 rw [D3,Xt,Iv]
 simp only [Option.bind_some,Bk,Cn,Bs,D6]
 rfl
end Mo
end Go.Proofs.YtkfplcngmiljaaaGreatDoor
namespace Go.Proofs.YtkfplcngmiljaaaGreatDoor
open AI Go
namespace Mo
set_option maxRecDepth 100000
set_option maxHeartbeats 4000000
theorem VD (l m:List Nd):G6 (l++m)=G6 l+G6 m:=by
 induction l with
 | nil=>simp [G6]
 | cons a l ih=>simp only [List.cons_append,G6,ih];omega
theorem YC {l:List Nd} {i:Nat} {y:Nd} (h:l[i]?=some y):G6 (l.take (i+1))=G6 (l.take i)+Dp y:=by
 rw [List.take_add_one,h,VD];simp [G6]
theorem ZK (l:List Nd) (i:Nat):G6 (l.take i)≤G6 l:=by
 have:=VD (l.take i) (l.drop i)
 rw [List.take_append_drop] at this
 omega
theorem tA:∀ (n:Nat) (e:Nd) (l:Int),CX e→Dp e≤n→l≤1000000→Bt n e l=some (max 0 (min ((Dp e:Nat):Int) l)):=by
 intro n
 induction n with
 | zero=>intro e l _ h;have:=Cf e;omega
 | succ n ih =>
   intro e l hok hn hl
   obtain ⟨_,hk,hks⟩:=En hok
   have hp:=Cf e
   rw [Bt,DU,Xx]
   simp only [FD,Bs,T9,MB]
   refine ⟨fun h=>by omega,fun h=>?_⟩
   refine fJ (fun i x=>x=min (((1+G6 (e.kids.take i):Nat)):Int) l) hk (by simp [G6];omega) (fun i y x hy hx=>?_) (fun x hx=>?_)
   · have hm:=List.mem_of_getElem? hy
     have h1:=YC hy
     have h2:=ZK e.kids (i+1)
     have h3:=MM hm
     simp only [C7,Ej,Bs,T9,Vy,MB,tO,tB]
     refine ⟨fun h4=>?_,fun h4=>by omega⟩
     rw [Mg (by omega),ih y (l - x) (hks y hm) (by omega) (by omega),MB,C0 (by omega)]
     omega
   · rw [List.take_length] at hx
     rw [MB];omega
theorem sA (e:Nd) (l:Int) (h:CX e) (hl:0≤l∧l < 1000000):DQ e l=some (mb (((Dp e:Nat):Int)≤l)):=by
 have hc:GZ e (l+1)=some (max 0 (min ((Dp e:Nat):Int) (l+1))):=LB (Dp e) fun n hn=>tA n e (l+1) h hn (by omega)
 rw [DQ,C0 (by omega),hc,Xx]
 simp only [FD,Bs,T9,MB,Vy,PN,NR]
 omega
theorem nT:∀ (n:Nat) (e:Nd) (l:Int),CX e→Dp e≤n→-1000000≤l→l≤1000000→DR n e l=some (mb (((JC e:Nat):Int)≤l)):=by
 intro n
 induction n with
 | zero=>intro e l _ h;have:=Cf e;omega
 | succ n ih =>
   intro e l hok hn hl0 hl
   obtain ⟨_,hk,hks⟩:=En hok
   have hp:=IY e
   rw [DR,H9,Ej,Bs]
   by_cases h:l < 1
   · rw [Ag h];refine GK ?_;omega
   rw [Af h,GR (v:=false) (P:=fun _ y=>((JC y:Nat):Int)≤l - 1) hk (fun i y hy=>by
     have hm:=List.mem_of_getElem? hy
     have h3:=MM hm
     simp only [G3]
     rw [Mg (by omega),ih y (l - 1) (hks y hm) (by omega) (by omega) (by omega)]
     simp only [Option.bind_some,Bs,R3]),F9,Ly]
   refine JN ?_
   have h4:(∀ k∈e.kids,((JC k:Nat):Int)≤l - 1)↔Vm e.kids≤(l - 1).toNat:=by
     rw [Oq]
     exact ⟨fun h k hk=>by have:=h k hk;omega,fun h k hk=>by have:=h k hk;omega⟩
   rw [h4]
   omega
theorem j7 (e:Nd) (h:CX e):Gu e=some (mb (Dp e≤2000∧JC e≤40)):=by
 have hf:JO e 40=some (mb (((JC e:Nat):Int)≤40)):=LB (Dp e) fun n hn=>nT n e 40 h hn (by omega) (by omega)
 rw [Gu,sA e 2000 h (by omega),hf]
 simp only [Option.bind_some,Bs,D6]
 refine JN ?_
 omega
theorem V6 {n:Nd} {nm un:ByteArray} {k f t w:Int} {tb:Fn}:CZ n ⟨0,nm,un,k,f,t,w,tb,[],0⟩↔n.name=nm∧n.unit=un∧n.n=k∧n.fr=f∧n.to=t∧n.known=w∧n.tab.den=tb.den∧n.tab.ps=tb.ps:=Iff.rfl
theorem Qt {k:Nd}:J3 k∧Ke k↔(k.kind=11∧(k.name=eS∧zD k∧zT k∧k.kids=[])∧k.unit=By∧EK k.n):=by
 rw [KS]
 unfold Ke zD zT EK
 constructor
 · rintro ⟨⟨h1,_⟩,h2,h3,h4⟩
   obtain ⟨_,_,_,_,hl,hb⟩:=(VW h2).1 h1
   obtain ⟨b1,_,_,b4,b5,b6,b7,b8⟩:=V6.1 hb
   exact ⟨h2,⟨b1,⟨b4,b5,b6⟩,⟨b7,b8⟩,Ui.1 hl⟩,h3,h4⟩
 · rintro ⟨h2,⟨b1,⟨b4,b5,b6⟩,⟨b7,b8⟩,hl⟩,h3,h4⟩
   refine ⟨⟨(VW h2).2 ⟨.inr (.inl h3),by omega,by omega,fun e=>?_,by rw [hl];rfl,V6.2 ⟨b1,rfl,rfl,b4,b5,b6,b7,b8⟩⟩,fun k hk=>by rw [hl] at hk;cases hk⟩,h2,h3,h4⟩
   rw [h3] at e
   exact absurd (congrArg ByteArray.data e) (by decide)
theorem aA:∀ (q:Nat) (n:Nd),CX n→2*Dp n≤q→Cs q n=some (mb (J3 n)):=by
 intro q
 induction q using Nat.strongRecOn with
 | _ q ih =>
 intro n hok hq
 have hsz:=Cf n
 obtain ⟨q,rfl⟩:∃ k,q=k+1:=⟨q - 1,by omega⟩
 obtain ⟨hps,hkl,hks⟩:=En hok
 have hfn:=((LP n).1 hok).1
 have hE:∀ k∈n.kids,∀ q',q≤q'+1→q' < q+1→Cs q' k=some (mb (J3 k)):=fun k hk q' h4 h5=>ih q' h5 k (hks k hk) (by have:=EP hk;omega)
 have hL:0 < n.kids.length→C1 q n.kids=some (mb (∀ k∈n.kids,J3 k)):=by
   intro h
   obtain ⟨q,rfl⟩:∃ k,q=k+1:=⟨q - 1,by have:=N7 n.kids;omega⟩
   rw [C1,G7,GR (v:=false) (P:=fun _ y=>J3 y) hkl (fun i y hy=>by
     simp only [GD]
     rw [hE y (List.mem_of_getElem? hy) q (by omega) (by omega)]
     simp only [Option.bind_some,Bs,R3]),F9,Ly]
 rw [Cs,HU]
 simp only [Bk,Cn,FD,Bs,Xt,kZ,mF,RV,aX,cQ,Iv,gX,Zs,Yy,cL _ hfn,Option.bind_some]
 rw [KS]
 have nokids:n.kids=[]→(∀ k∈n.kids,J3 k):=fun h k hk=>by rw [h] at hk;cases hk
 by_cases Xf:n.kind=11
 · rw [Ag Xf,VW Xf,V6,Ui]
   simp only [F9,D6,cX,JW,zD,zT,FH]
   have tt:AO (UC n.unit) (some true) (some true)=some (mb True):=by rw [JW,pI]
   have hb:∀ {A:Prop},AO A (some (mb True)) (some false)=some (mb A):=by intro A;rw [D6];exact JN (by simp)
   first
     | (simp only [tt,pI,D6,dJ])
     | skip
   refine JN ⟨?_,?_⟩
   · rintro ⟨⟨b1,⟨b2,b3,b4⟩,⟨b5,b6⟩,b7⟩,h1,h2⟩
     refine ⟨?_,nokids b7⟩
     by_cases ht:n.unit=A3
     · have:=h1 ht
       exact ⟨.inl ht,by omega,by omega,fun _=>by omega,b7,b1,trivial,trivial,b2,b3,b4,b5,b6⟩
     · obtain ⟨h3,h4⟩:=h2 ht
       refine ⟨?_,by omega,by omega,fun h=>absurd h ht,b7,b1,trivial,trivial,b2,b3,b4,b5,b6⟩
       rcases h4 with h | h | h
       · exact .inr (.inr (.inr h))
       · exact .inr (.inl h)
       · exact .inr (.inr (.inl h))
   · rintro ⟨⟨h0,h1,h2,h3,b7,b1,_,_,b2,b3,b4,b5,b6⟩,_⟩
     refine ⟨⟨b1,⟨b2,b3,b4⟩,⟨b5,b6⟩,b7⟩,fun ht=>⟨⟨h1,h3 ht⟩,h1,h2⟩,fun ht=>⟨⟨h1,h2⟩,?_⟩⟩
     rcases h0 with h | h | h | h
     · exact absurd h ht
     · exact .inr (.inl h)
     · exact .inr (.inr h)
     · exact .inl h
 rw [Af Xf]
 by_cases U4:n.kind=12
 · rw [Ag U4,bG U4,V6,Ui]
   simp only [D6,zD,zT]
   refine JN ?_
   constructor
   · rintro ⟨⟨b1,b2,⟨b3,b4,b5⟩,⟨b6,b7⟩,b8⟩,h⟩
     exact ⟨⟨h,b8,trivial,b1,b2,b3,b4,b5,b6,b7⟩,nokids b8⟩
   · rintro ⟨⟨h,b8,_,b1,b2,b3,b4,b5,b6,b7⟩,_⟩
     exact ⟨⟨b1,b2,⟨b3,b4,b5⟩,⟨b6,b7⟩,b8⟩,h⟩
 rw [Af U4]
 by_cases ZX:n.kind=13
 · rw [Ag ZX,aY ZX,V6,Ui]
   simp only [D6,zD,zT]
   refine JN ?_
   constructor
   · rintro ⟨⟨b1,b2,⟨b3,b4,b5⟩,⟨b6,b7⟩,b8⟩,h⟩
     exact ⟨⟨h,b8,b1,b2,trivial,b3,b4,b5,b6,b7⟩,nokids b8⟩
   · rintro ⟨⟨h,b8,b1,b2,_,b3,b4,b5,b6,b7⟩,_⟩
     exact ⟨⟨b1,b2,⟨b3,b4,b5⟩,⟨b6,b7⟩,b8⟩,h⟩
 rw [Af ZX]
 by_cases YE:n.kind=14
 · rw [Ag YE,gA YE,V6,Ui,jT _ _ (by decide)]
   simp only [Option.bind_some,D6,zD,zT]
   refine JN ?_
   have hd:n.name∈[EA,NY,Ht,JZ]↔PG n.name:=by
     unfold PG
     simp only [List.mem_cons,List.not_mem_nil,or_false]
   rw [hd]
   constructor
   · rintro ⟨⟨b1,b2,⟨b3,b4,b5⟩,⟨b6,b7⟩,b8⟩,h⟩
     exact ⟨⟨h,b8,trivial,b1,b2,b3,b4,b5,b6,b7⟩,nokids b8⟩
   · rintro ⟨⟨h,b8,_,b1,b2,b3,b4,b5,b6,b7⟩,_⟩
     exact ⟨⟨b1,b2,⟨b3,b4,b5⟩,⟨b6,b7⟩,b8⟩,h⟩
 rw [Af YE]
 have hone:∀ {β:Type} (f:Bool→Option β),n.kids.length=1→((n.kids[0]?).bind fun x=>(Cs q x).bind f)=f (mb (∀ k∈n.kids,J3 k)):=by
   intro β f hl
   have hE0:=fun k hk=>hE k hk q (by omega) (by omega)
   generalize n.kids=ks at *
   match ks,hl with
   | [x],_ =>
   simp only [List.getElem?_cons_zero,Option.bind_some]
   rw [hE0 x (by simp)]
   simp only [Option.bind_some]
   congr 1
   exact FI (by simp)
 by_cases YR:n.kind=15
 · rw [Ag YR,ZM YR,V6]
   by_cases hl:n.kids.length=1
   · rw [Ag (show ((n.kids.length:Nat):Int)=1 by omega),hone _ hl]
     simp only [D6,zD,zT]
     refine JN ?_
     constructor
     · rintro ⟨⟨b1,b2,b0,⟨b3,b4,b5⟩,⟨b6,b7⟩⟩,h⟩
       exact ⟨⟨hl,b1,b2,b0,b3,b4,b5,b6,b7⟩,h⟩
     · rintro ⟨⟨_,b1,b2,b0,b3,b4,b5,b6,b7⟩,h⟩
       exact ⟨⟨b1,b2,b0,⟨b3,b4,b5⟩,⟨b6,b7⟩⟩,h⟩
   · rw [Af (show ¬ ((n.kids.length:Nat):Int)=1 by omega),JW]
     exact GK fun a=>hl a.1.1
 rw [Af YR]
 by_cases U7:n.kind=16
 · rw [Ag U7,XJ U7,V6,jT _ _ (by decide)]
   have hop:n.name∈[Sl,IK,IF,Is,PQ,Iu,K6,H7,O7,Jm,Tl]↔P2 n.name:=by
     unfold P2
     simp only [List.mem_cons,List.not_mem_nil,or_false]
     constructor
     · rintro (h | h | h | h | h | h | h | h | h | h | h)<;>simp [h]
     · rintro (h | h | h | h | h | h | h | h | h | h | h)<;>simp [h]
   by_cases hl:n.kids.length=2
   rotate_left
   · rw [Af (show ¬ ((n.kids.length:Nat):Int)=2 by omega),JW]
     exact GK fun a=>hl a.1.2.1
   rw [Ag (show ((n.kids.length:Nat):Int)=2 by omega),hL (by omega)]
   have hk1:n.kids[1]?=some n.kids[1]:=List.getElem?_eq_getElem (by omega)
   have hmem:n.kids[1]∈n.kids:=List.getElem_mem _
   rw [hk1]
   simp only [Option.bind_some,Yy,Bs,D6,dJ,hop,zD,zT]
   refine JN ?_
   have hnum:=@Qt n.kids[1]
   unfold zD zT at hnum
   generalize n.kids[1]=x at *
   simp only [Option.some.injEq,forall_eq']
   constructor
   · rintro ⟨⟨b2,b0,⟨b3,b4,b5⟩,⟨b6,b7⟩⟩,h1,h2⟩
     by_cases hs:n.name=Jm
     · obtain ⟨c1,c2,c3⟩:=h1 hs
       exact ⟨⟨⟨trivial,b2,b0,b3,b4,b5,b6,b7⟩,hl,c2,fun _=>(hnum.2 c1).2⟩,c3⟩
     · obtain ⟨c2,c3⟩:=h2 hs
       exact ⟨⟨⟨trivial,b2,b0,b3,b4,b5,b6,b7⟩,hl,c2,fun h=>absurd h hs⟩,c3⟩
   · rintro ⟨⟨⟨_,b2,b0,b3,b4,b5,b6,b7⟩,_,c2,c1⟩,c3⟩
     exact ⟨⟨b2,b0,⟨b3,b4,b5⟩,⟨b6,b7⟩⟩,fun hs=>⟨hnum.1 ⟨c3 x hmem,c1 hs⟩,c2,c3⟩,fun _=>⟨c2,c3⟩⟩
 rw [Af U7]
 by_cases XY:n.kind=17
 · rw [Ag XY,ZI XY,V6]
   by_cases hl:2≤n.kids.length
   rotate_left
   · rw [Af (show ¬ 2≤((n.kids.length:Nat):Int) by omega),JW]
     exact GK fun a=>hl a.1.2.2
   rw [Ag (show 2≤((n.kids.length:Nat):Int) by omega),hL (by omega)]
   simp only [Option.bind_some,D6,dJ,zD,zT]
   refine JN ?_
   constructor
   · rintro ⟨⟨b2,b0,⟨b3,b4,b5⟩,⟨b6,b7⟩⟩,h1,h2⟩
     by_cases hs:n.name=GP
     · exact ⟨⟨.inl hs,⟨trivial,b2,b0,b3,b4,b5,b6,b7⟩,hl⟩,h1 hs⟩
     · exact ⟨⟨.inr (h2 hs).1,⟨trivial,b2,b0,b3,b4,b5,b6,b7⟩,hl⟩,(h2 hs).2⟩
   · rintro ⟨⟨c1,⟨_,b2,b0,b3,b4,b5,b6,b7⟩,_⟩,c3⟩
     exact ⟨⟨b2,b0,⟨b3,b4,b5⟩,⟨b6,b7⟩⟩,fun _=>c3,fun hs=>⟨c1.resolve_left hs,c3⟩⟩
 rw [Af XY]
 by_cases ZU:n.kind=18
 · rw [Ag ZU,ZR ZU,V6]
   by_cases hl:n.kids.length=1
   · rw [Ag (show ((n.kids.length:Nat):Int)=1 by omega),hone _ hl]
     simp only [Bs,D6,zD]
     refine JN ?_
     constructor
     · rintro ⟨⟨b1,b2,b0,⟨b3,b4,b5⟩⟩,h,h2⟩
       exact ⟨⟨⟨b1,b2,b0,b3,b4,b5,trivial,trivial⟩,h2,hl⟩,h⟩
     · rintro ⟨⟨⟨b1,b2,b0,b3,b4,b5,_,_⟩,h2,_⟩,h⟩
       exact ⟨⟨b1,b2,b0,⟨b3,b4,b5⟩⟩,h,h2⟩
   · rw [Af (show ¬ ((n.kids.length:Nat):Int)=1 by omega),JW]
     exact GK fun a=>hl a.1.2.2
 rw [Af ZU]
 exact GK fun a=>by have:=Oj a.1;omega
theorem YW {n:Nd} (hok:CX n):Fk n=some (mb (J3 n)):=LB (2*Dp n) fun q hq=>aA q n hok hq
theorem kQ {n:Nd}:Dq n=some (mb (IS n)):=by
 rw [Dq,eV]
 simp only [Iv,Option.bind_some,Bk,Bs]
 unfold IS
 rw [V6,Ui]
 unfold zT VU
 by_cases hf:0≤n.fr∧n.fr≤36524
 · rw [C0 (by omega)]
   simp only [D6]
   refine JN ⟨?_,?_⟩
   · rintro ⟨k5,⟨b1,b2,⟨b3,b4⟩,b5⟩,⟨h1,h2⟩,h3,⟨h4,h5⟩,h6⟩
     exact ⟨k5,⟨h1,h2⟩,b5,h3,⟨by omega,h5⟩,h6,b1,b2,trivial,trivial,trivial,trivial,b3,b4⟩
   · rintro ⟨k5,h1,b5,h3,⟨h4,h5⟩,h6,b1,b2,_,_,_,_,b3,b4⟩
     exact ⟨k5,⟨b1,b2,⟨b3,b4⟩,b5⟩,h1,h3,⟨by omega,h5⟩,h6⟩
 · rw [Af hf]
   simp only [JW]
   exact GK fun a=>hf a.2.2.2.1
theorem Wt (l:List Nd) (hl:l.length≤9223372036854775807):EB l=some (mb (0 < l.length∧∀ k∈l,J3 k∧Ke k)):=by
 rw [EB,GR (v:=false) (P:=fun _ k=>J3 k∧Ke k) hl (fun i k _=>by
   simp only [Fp,Yy,Option.bind_some,Bs,R3,Qt]),Ej,Bs]
 simp only [F9,D6,Ly]
 exact JN ⟨fun a=>⟨by omega,a.1⟩,fun a=>⟨a.2,by omega⟩⟩
theorem T8 (n:Nd):CZ n z0↔n.name=eS∧n.unit=eS∧n.n=0∧zD n∧zT n:=by
 unfold zD zT
 rw [V6]
 simp only [and_assoc]
theorem KC:∀ {l:List Nd} {i:Nat} {a b:Nat},(∀ x∈l,CX x)→a+l.length≤9223372036854775807→b+l.length≤9223372036854775807 →
   AT (fun i y x=>Ca i y x.1 x.2) (fun x=>(x.1,x.2)) l i (((a:Nat):Int),((b:Nat):Int))=(some (AO (kinds l∧∀ k∈l,Bp k) (.inl (((a+Bi 7 l:Nat):Int),((b+Bi 8 l:Nat):Int))) (.inr false)):Option ((Int×Int)⊕Bool))
 | [],i,a,b,_,_,_=>by rw [Ag (show kinds []∧_ from ⟨fun k hk=>(by cases hk),fun k hk=>(by cases hk)⟩)];rfl
 | x::l,i,a,b,hok,ha,hb=>by
   simp only [List.length_cons] at ha hb
   have hx:=hok x (by simp)
   obtain ⟨hps,hkl,hks⟩:=En hx
   rw [AT,Ca,RV]
   simp only [Option.bind_some,Bk,Bs,Wt _ hkl]
   have hsplit:(kinds (x::l)∧∀ k∈x::l,Bp k)↔((6≤x.kind∧x.kind≤8)∧Bp x)∧kinds l∧∀ k∈l,Bp k:=by
     unfold kinds
     simp only [List.mem_cons,forall_eq_or_imp]
     exact ⟨fun ⟨⟨p,q⟩,r,s⟩=>⟨⟨p,r⟩,q,s⟩,fun ⟨⟨p,r⟩,q,s⟩=>⟨⟨p,q⟩,r,s⟩⟩
   have stop:¬ ((6≤x.kind∧x.kind≤8)∧Bp x)→(some (Lp.rt false):Option (Lp (Int×Int) (Int×Int) Bool)).bind (GH (AT (fun i y x=>Ca i y x.1 x.2) (fun x=>(x.1,x.2)) l (i+1)))=some (AO (kinds (x::l)∧∀ k∈x::l,Bp k) (.inl (((a+Bi 7 (x::l):Nat):Int),((b+Bi 8 (x::l):Nat):Int))) (.inr false)):=by
     intro h
     rw [Af fun q=>h (hsplit.1 q).1];rfl
   have go:∀ {a' b':Nat},((6≤x.kind∧x.kind≤8)∧Bp x)→a'≤a+1→b'≤b+1→a'+Bi 7 l=a+Bi 7 (x::l)→b'+Bi 8 l=b+Bi 8 (x::l)→(some (Lp.nx (((a':Nat):Int),((b':Nat):Int))):Option (Lp (Int×Int) (Int×Int) Bool)).bind (GH (AT (fun i y x=>Ca i y x.1 x.2) (fun x=>(x.1,x.2)) l (i+1)))=some (AO (kinds (x::l)∧∀ k∈x::l,Bp k) (.inl (((a+Bi 7 (x::l):Nat):Int),((b+Bi 8 (x::l):Nat):Int))) (.inr false)):=by
     intro a' b' h h1 h2 e1 e2
     have ih:=KC (l:=l) (i:=i+1) (a:=a') (b:=b') (fun y hy=>hok y (by simp [hy])) (by omega) (by omega)
     rw [e1,e2] at ih
     show AT _ _ l (i+1) _=_
     rw [ih]
     by_cases hr:kinds l∧∀ k∈l,Bp k
     · rw [Ag hr,Ag (hsplit.2 ⟨h,hr⟩)]
     · rw [Af hr,Af fun q=>hr (hsplit.1 q).2]
   rw [← T8]
   by_cases hb0:CZ x z0
   rotate_left
   · rw [Af hb0];exact stop fun q=>hb0 q.2.1
   rw [Ag hb0]
   have one:∀ {A B:Option (Lp (Int×Int) (Int×Int) Bool)},x.kind≠7→(Bp x→A.bind (GH (AT (fun i y x=>Ca i y x.1 x.2) (fun x=>(x.1,x.2)) l (i+1)))=some (AO (kinds (x::l)∧∀ k∈x::l,Bp k) (.inl (((a+Bi 7 (x::l):Nat):Int),((b+Bi 8 (x::l):Nat):Int))) (.inr false))) →
       (AO (((x.kids.length:Nat):Int)=1) ((x.kids[0]?).bind fun x2=>(Fk x2).bind fun y3=>cond y3 A (some (.rt false))) (some (.rt false))).bind (GH (AT (fun i y x=>Ca i y x.1 x.2) (fun x=>(x.1,x.2)) l (i+1)))=some (AO (kinds (x::l)∧∀ k∈x::l,Bp k) (.inl (((a+Bi 7 (x::l):Nat):Int),((b+Bi 8 (x::l):Nat):Int))) (.inr false)):=by
     intro A B k7 hA
     by_cases hl:x.kids.length=1
     rotate_left
     · rw [Af (by omega)];exact stop fun q=>hl (q.2.2.2 k7).1
     rw [Ag (by omega)]
     obtain ⟨k,hk⟩:∃ k,x.kids=[k]:=by
       generalize x.kids=ks at hl
       match ks,hl with
       | [k],_=>exact ⟨k,rfl⟩
     have h0:x.kids[0]?=some k:=by rw [hk];rfl
     rw [h0]
     simp only [Option.bind_some]
     rw [YW (hks k (by rw [hk];simp))]
     simp only [Option.bind_some,Bs]
     have hc:Bp x↔J3 k:=by
       unfold Bp
       constructor
       · intro q;exact (q.2.2 k7).2 k (by rw [hk];simp)
       · intro q;exact ⟨hb0,fun h=>absurd h k7,fun _=>⟨hl,fun k' hk'=>by rw [hk,List.mem_singleton] at hk';rw [hk'];exact q⟩⟩
     by_cases he:J3 k
     · rw [Ag he];exact hA (hc.2 he)
     · rw [Af he];exact stop fun q=>he (hc.1 q.2)
   by_cases k6:x.kind=6
   · rw [Ag k6]
     refine one (B:=none) (by omega) fun h=>go ⟨by omega,h⟩ (by omega) (by omega) (by simp [Bi,k6]) (by simp [Bi,k6])
   rw [Af k6]
   by_cases k8:x.kind=8
   · rw [Ag k8,C0 (by omega),show ((b:Nat):Int)+1=((b+1:Nat):Int) by omega]
     refine one (B:=none) (by omega) fun h=>go ⟨by omega,h⟩ (by omega) (by omega) (by simp [Bi,k8]) (by simp [Bi,k8];omega)
   rw [Af k8]
   by_cases k7:x.kind=7
   · rw [Ag k7]
     have hc:Bp x↔(0 < x.kids.length∧∀ k∈x.kids,J3 k∧Ke k):=by
       unfold Bp
       exact ⟨fun q=>q.2.1 k7,fun q=>⟨hb0,fun _=>q,fun h=>absurd k7 h⟩⟩
     rw [← hc]
     by_cases h:Bp x
     · rw [Ag h,C0 (by omega),show ((a:Nat):Int)+1=((a+1:Nat):Int) by omega]
       exact go ⟨by omega,h⟩ (by omega) (by omega) (by simp [Bi,k7];omega) (by simp [Bi,k7])
     · rw [Af h];exact stop fun q=>h q.2
   · rw [Af k7];exact stop fun q=>by have:=q.1;omega
theorem WI (l:List Nd) (hok:∀ x∈l,CX x) (hl:l.length≤9223372036854775807):Cr l=some (mb ((kinds l∧∀ k∈l,Bp k)∧Bi 7 l≤1∧Bi 8 l=1)):=by
 have h:=KC (l:=l) (i:=0) (a:=0) (b:=0) hok (by omega) (by omega)
 rw [Cr,Fa hl,List.drop_zero]
 rw [show (((0:Nat):Int))=0 from rfl] at h
 rw [h]
 by_cases hc:kinds l∧∀ k∈l,Bp k
 · rw [Ag hc]
   simp only [Option.bind_some,GF,FD,Bk,Bs,F9,D6]
   exact JN ⟨fun q=>⟨hc,by omega,by omega⟩,fun q=>⟨by omega,by omega⟩⟩
 · rw [Af hc]
   exact GK fun q=>hc q.1
theorem QJ {n:Nd} (hok:CX n) (u:Prop):AO (n.kind=2) (AO (n.n=0∧zD n∧zT n∧n.kids=[]) (some (mb u)) (some false)) (AO (n.kind=3) (AO (zD n∧zT n∧n.kids=[]) (AO u (some (mb (1≤n.n∧n.n≤4))) (some false)) (some false)) (AO (n.kind=4) (AO (n.unit=eS∧zD n∧zT n) (AO (1≤n.n∧n.n≤1000000) (AO (1 < ((n.kids.length:Nat):Int)) ((n.kids[0]?).bind fun x=>(Dq x).bind fun y=>cond y ((JT n.kids 1 ((n.kids.length:Nat):Int)).bind fun l=>(Cr l).bind fun y=>some y) (some false)) (some false)) (some false)) (some false)) (some false)))=some (mb ((n.kind=2∧u∧n.n=0∧zD n∧zT n∧n.kids=[])∨(n.kind=3∧u∧(1≤n.n∧n.n≤4)∧zD n∧zT n∧n.kids=[])∨(n.kind=4∧(n.unit=eS∧zD n∧zT n)∧EK n.n∧∃ h cs,n.kids=h::cs∧kinds cs∧Bi 8 cs=1∧Bi 7 cs≤1∧IS h∧∀ k∈cs,Bp k))):=by
 obtain ⟨hps,hkl,hks⟩:=En hok
 by_cases k2:n.kind=2
 · rw [Ag k2,D6]
   refine JN ⟨fun ⟨a,b⟩=>.inl ⟨k2,b,a⟩,?_⟩
   rintro (a | a | a)
   · exact ⟨a.2.2,a.2.1⟩
   · omega
   · omega
 rw [Af k2]
 by_cases k3:n.kind=3
 · rw [Ag k3,D6,D6]
   refine JN ⟨fun ⟨a,b,c⟩=>.inr (.inl ⟨k3,b,c,a⟩),?_⟩
   rintro (a | a | a)
   · omega
   · exact ⟨a.2.2.2,a.2.1,a.2.2.1⟩
   · omega
 rw [Af k3]
 by_cases k4:n.kind=4
 rotate_left
 · rw [Af k4]
   refine GK ?_
   rintro (a | a | a)
   · omega
   · omega
   · omega
 rw [Ag k4]
 by_cases hl:1 < n.kids.length
 rotate_left
 · rw [Af (show ¬ (1:Int) < ((n.kids.length:Nat):Int) by omega),JW,JW]
   refine GK ?_
   rintro (a | a | ⟨_,_,_,h,cs,e,_,e8,_⟩)
   · omega
   · omega
   · rw [e] at hl
     have:=L4 8 cs
     simp at hl
     rw [hl] at e8
     cases e8
 rw [Ag (show (1:Int) < ((n.kids.length:Nat):Int) by omega)]
 generalize n.kids=ks at *
 match ks,hl with
 | x::l,_ =>
 have hsub:JT (x::l) 1 (((x::l).length:Nat):Int)=some l:=by
   unfold JT
   rw [if_pos (by simp only [List.length_cons];omega)]
   simp
 rw [hsub]
 simp only [List.getElem?_cons_zero,Option.bind_some,kQ,Bs]
 rw [WI l (fun y hy=>hks y (by simp [hy])) (by simp at hkl;omega)]
 simp only [Option.bind_some,D6]
 refine JN ⟨?_,?_⟩
 · rintro ⟨a,b,c,⟨d,e⟩,f,g⟩
   exact .inr (.inr ⟨k4,a,b,x,l,rfl,d,g,f,c,e⟩)
 · rintro (a | a | ⟨_,a,b,h,cs,e,d,g,f,c,e'⟩)
   · omega
   · omega
   · cases e
     exact ⟨a,b,c,⟨d,e'⟩,f,g⟩
theorem n3 {n:Nd} (hok:CX n):Gj n=some (mb (F4 n)):=by
 have c1:=QJ hok True
 simp only [Ag trivial,← pI] at c1
 have c2:=QJ hok (n.unit=Cm)
 rw [Gj]
 simp only [Zs,gX,nX,kN,dH,Iv,Option.bind_some,Bk,Cn,Ej,Bs]
 rw [c1,c2]
 have hbare:∀ {un:ByteArray} {k:Int},CZ n ⟨0,n.name,un,k,0,0,0,⟨0,[]⟩,[],0⟩↔n.unit=un∧n.n=k∧zD n∧zT n:=by
   intro un k
   unfold zD zT
   rw [V6]
   simp only [true_and,and_assoc]
 simp only [D6,dJ]
 refine JN ?_
 unfold F4 fI
 simp only [hbare,Ui,true_and]
 constructor
 · rintro ⟨hn,h1,h2⟩
   have uni:∀ {k:Prop},(FH n.unit→((n.kind=2∧n.n=0∧zD n∧zT n∧n.kids=[])∨(n.kind=3∧(1≤n.n∧n.n≤4)∧zD n∧zT n∧n.kids=[])∨(n.kind=4∧(n.unit=eS∧zD n∧zT n)∧EK n.n∧∃ h cs,n.kids=h::cs∧kinds cs∧Bi 8 cs=1∧Bi 7 cs≤1∧IS h∧∀ k∈cs,Bp k)))→FH n.unit→((n.kind=2∧Fw n.name∧FH n.unit∧n.kids=[]∧n.n=0∧zD n∧zT n)∨(n.kind=3∧Fw n.name∧FH n.unit∧1≤n.n∧n.n≤4∧n.kids=[]∧zD n∧zT n)∨(n.kind=4∧EK n.n∧Fw n.name∧(n.unit=eS∧zD n∧zT n)∧∃ h cs,n.kids=h::cs∧kinds cs∧Bi 8 cs=1∧Bi 7 cs≤1∧IS h∧∀ k∈cs,Bp k)):=by
     intro _ h hu
     rcases h hu with ⟨a,b,c,d,e⟩ | ⟨a,b,c,d,e⟩ | ⟨a,b,c,d⟩
     · exact .inl ⟨a,hn,hu,e,b,c,d⟩
     · exact .inr (.inl ⟨a,hn,hu,b.1,b.2,e,c,d⟩)
     · exact .inr (.inr ⟨a,c,hn,b,d⟩)
   by_cases hc:UC n.unit
   · exact uni (k:=True) (fun _=>h1 hc) (.inr (.inr (.inr hc)))
   obtain ⟨h3,h4⟩:=h2 hc
   by_cases ht:n.unit=A3
   · exact uni (k:=True) (fun _=>h3 ht) (.inl ht)
   obtain ⟨h5,h6⟩:=h4 ht
   by_cases hm:n.unit=By
   · exact uni (k:=True) (fun _=>h5 hm) (.inr (.inl hm))
   rcases h6 hm with ⟨a,b,r⟩ | ⟨a,b,r⟩ | r
   · exact uni (k:=True) (fun _=>.inl ⟨a,r⟩) (.inr (.inr (.inl b)))
   · exact uni (k:=True) (fun _=>.inr (.inl ⟨a,r⟩)) (.inr (.inr (.inl b)))
   · exact .inr (.inr ⟨r.1,r.2.2.1,hn,r.2.1,r.2.2.2⟩)
 · have back:(n.kind=2∧Fw n.name∧FH n.unit∧n.kids=[]∧n.n=0∧zD n∧zT n)∨(n.kind=3∧Fw n.name∧FH n.unit∧1≤n.n∧n.n≤4∧n.kids=[]∧zD n∧zT n)∨(n.kind=4∧EK n.n∧Fw n.name∧(n.unit=eS∧zD n∧zT n)∧∃ h cs,n.kids=h::cs∧kinds cs∧Bi 8 cs=1∧Bi 7 cs≤1∧IS h∧∀ k∈cs,Bp k)→Fw n.name∧(n.kind≠4→FH n.unit)∧((n.kind=2∧n.n=0∧zD n∧zT n∧n.kids=[])∨(n.kind=3∧(1≤n.n∧n.n≤4)∧zD n∧zT n∧n.kids=[])∨(n.kind=4∧(n.unit=eS∧zD n∧zT n)∧EK n.n∧∃ h cs,n.kids=h::cs∧kinds cs∧Bi 8 cs=1∧Bi 7 cs≤1∧IS h∧∀ k∈cs,Bp k)):=by
     rintro (⟨a,b,c,d,e,f,g⟩ | ⟨a,b,c,d,d',e,f,g⟩ | ⟨a,b,c,d,e⟩)
     · exact ⟨b,fun _=>c,.inl ⟨a,e,f,g,d⟩⟩
     · exact ⟨b,fun _=>c,.inr (.inl ⟨a,⟨d,d'⟩,f,g,e⟩)⟩
     · exact ⟨c,fun h=>absurd a h,.inr (.inr ⟨a,d,b,e⟩)⟩
   intro h
   obtain ⟨hn,hu,r⟩:=back h
   refine ⟨hn,fun _=>r,fun nc=>⟨fun _=>r,fun nt=>⟨fun _=>r,fun nn=>?_⟩⟩⟩
   rcases r with ⟨a,r⟩ | ⟨a,r⟩ | r
   · have hm:n.unit=Cm:=by
       rcases hu (by omega) with h | h | h | h
       · exact absurd h nt
       · exact absurd h nn
       · exact h
       · exact absurd h nc
     exact .inl ⟨a,hm,r⟩
   · have hm:n.unit=Cm:=by
       rcases hu (by omega) with h | h | h | h
       · exact absurd h nt
       · exact absurd h nn
       · exact h
       · exact absurd h nc
     exact .inr (.inl ⟨a,hm,r⟩)
   · exact .inr (.inr r)
theorem Vc {n:Nd} (hok:CX n):EE n=some (mb (LM n)):=by
 obtain ⟨hps,hkl,hks⟩:=En hok
 rw [EE,j7 n hok,YW hok]
 simp only [Option.bind_some,Bs,Bk]
 unfold LM
 by_cases hf:Dp n≤2000∧JC n≤40
 rotate_left
 · rw [Af hf];exact GK fun q=>hf q.2
 rw [Ag hf]
 by_cases k1:n.kind=1
 · rw [Ag k1,GR (v:=false) (P:=fun _ k=>F4 k) hkl (fun i k hk=>by
     simp only [Gc]
     rw [n3 (hks k (List.mem_of_getElem? hk))]
     simp only [Option.bind_some,Bs,R3]),RV]
   simp only [Option.bind_some,D6,Ly]
   refine JN ⟨fun q=>⟨.inl ⟨k1,(T8 n).2 q.2,q.1⟩,hf⟩,?_⟩
   rintro ⟨a | a,_⟩
   · exact ⟨a.2.2,(T8 n).1 a.2.1⟩
   · exact absurd k1 a.1
 · rw [Af k1]
   refine JN ⟨fun q=>⟨.inr ⟨k1,q⟩,hf⟩,?_⟩
   rintro ⟨a | a,_⟩
   · exact absurd a.1 k1
   · exact a.2
end Mo
end Go.Proofs.YtkfplcngmiljaaaGreatDoor
namespace Go.Proofs.YtkfplcngmiljaaaGreatDoor
open AI Go
namespace Mo
set_option maxRecDepth 100000
set_option maxHeartbeats 4000000
theorem uY {β:Type} {p:Prop} [Decidable p] {x y:β}:AO p x y=if p then x else y:=by
 by_cases h:p
 · rw [Ag h,if_pos h]
 · rw [Af h,if_neg h]
theorem iff_congr {β:Type} {p q:Prop} {x y z w:β} (h:p↔q) (hx:q→x=z) (hy:¬ q→y=w):AO p x y=AO q z w:=by
 by_cases k:q
 · rw [Ag (h.2 k),Ag k,hx k]
 · rw [Af fun e=>k (h.1 e),Af k,hy k]
structure Ch where
 f:ByteArray
 t:ByteArray
 a:ByteArray
 b:ByteArray
namespace Ch
variable (c:Ch)
def sw (u:ByteArray):ByteArray:=if u=c.a then c.b else if u=c.b then c.a else u
def ro (x:ByteArray):ByteArray:=if x=c.f then c.t else x
def rn (n:Nd):ByteArray:=if n.kind=2∨n.kind=12 then c.ro n.name else n.name
structure Good:Prop where
 ia:Nz c.a
 ib:Nz c.b
 un:FH c.a↔FH c.b
 nm:Fw c.t∨c.f=c.t
variable {c}
theorem TP {u v:ByteArray}:c.sw u=c.sw v↔u=v:=by
 unfold sw
 constructor
 · intro h
   repeat' split at h
   all_goals simp_all
 · rintro rfl;rfl
theorem Gb (g:c.Good) {x:ByteArray} (h:¬ Nz x):c.sw x=x:=by
 unfold sw
 rw [if_neg (fun e:x=c.a=>h (by rw [e];exact g.ia)),if_neg (fun e:x=c.b=>h (by rw [e];exact g.ib))]
theorem Uc:¬ Nz eS:=fun h=>h.1 rfl
theorem pJ:¬ Nz A3:=fun h=>h.2.1 rfl
theorem uJ:¬ Nz By:=fun h=>h.2.2.1 rfl
theorem yE:¬ Nz Cm:=fun h=>h.2.2.2 rfl
theorem Iy (g:c.Good) {x u:ByteArray} (h:¬ Nz x):c.sw u=x↔u=x:=by
 constructor
 · intro e;exact TP.1 (e.trans (Gb g h).symm)
 · rintro rfl;exact Gb g h
theorem XA (g:c.Good) {u:ByteArray}:Nz (c.sw u)↔Nz u:=by
 unfold Nz
 exact and_congr (not_congr (Iy g Uc)) (and_congr (not_congr (Iy g pJ)) (and_congr (not_congr (Iy g uJ)) (not_congr (Iy g yE))))
theorem RU (g:c.Good) {u:ByteArray} (h:FH u):FH (c.sw u):=by
 unfold sw
 split
 · rename_i e;exact g.un.1 (e▸h)
 · split
   · rename_i e;exact g.un.2 (e▸h)
   · exact h
def gd (c:Ch) (x:ByteArray):Prop:=x≠c.t∨c.f=c.t
theorem Xs {x y:ByteArray} (hx:c.gd x) (hy:c.gd y):c.ro x=c.ro y↔x=y:=by
 unfold ro
 unfold gd at hx hy
 constructor
 · intro h
   repeat' split at h
   all_goals grind
 · rintro rfl;rfl
theorem Vk (g:c.Good) {x:ByteArray} (h:Fw x):Fw (c.ro x):=by
 unfold ro
 split
 · rename_i e
   rcases g.nm with n | n
   · exact n
   · rw [← n,← e];exact h
 · exact h
end Ch
mutual
def nG (x:ByteArray):Nd→Prop
 | ⟨_,name,_,_,_,_,_,_,kids,_⟩=>name≠x∧tI x kids
def tI (x:ByteArray):List Nd→Prop
 | []=>True
 | k::ks=>nG x k∧tI x ks
end
theorem bO {x:ByteArray} {l:List Nd}:tI x l↔∀ k∈l,nG x k:=by
 induction l with
 | nil=>simp [tI]
 | cons k l ih=>simp [tI,ih]
theorem L7 {x:ByteArray} (n:Nd):nG x n↔n.name≠x∧∀ k∈n.kids,nG x k:=by cases n;rw [nG,bO]
def nf (c:Ch) (n:Nd):Prop:=nG c.t n∨c.f=c.t
theorem U8 {c:Ch} {n:Nd} (h:nf c n):c.gd n.name:=h.imp_left fun h=>((L7 n).1 h).1
theorem MY {c:Ch} {n k:Nd} (h:nf c n) (hk:k∈n.kids):nf c k:=h.imp_left fun h=>((L7 n).1 h).2 k hk
mutual
def DY (c:Ch):Nd→Nd
 | ⟨kind,name,unit,n,fr,to,known,tab,kids,att⟩=>⟨kind,c.rn ⟨kind,name,unit,n,fr,to,known,tab,kids,att⟩,c.sw unit,n,fr,to,known,tab,rR c kids,att⟩
def rR (c:Ch):List Nd→List Nd
 | []=>[]
 | k::ks=>DY c k::rR c ks
end
theorem Vq (c:Ch):∀ l:List Nd,rR c l=l.map (DY c)
 | []=>by rw [rR];rfl
 | k::l=>by rw [rR,Vq c l];rfl
theorem Hq (c:Ch) (n:Nd):DY c n=⟨n.kind,c.rn n,c.sw n.unit,n.n,n.fr,n.to,n.known,n.tab,n.kids.map (DY c),n.att⟩:=by cases n;rw [DY,Vq]
section
variable (c:Ch) (n:Nd)
theorem C2:(DY c n).kind=n.kind:=by rw [Hq]
theorem CJ:(DY c n).name=c.rn n:=by rw [Hq]
theorem Gq:(DY c n).unit=c.sw n.unit:=by rw [Hq]
theorem Kh:(DY c n).n=n.n:=by rw [Hq]
theorem Ds:(DY c n).kids=n.kids.map (DY c):=by rw [Hq]
theorem OL:(DY c n).att=n.att:=by rw [Hq]
end
theorem Q6 {c:Ch} {n:Nd} (h:n.kind=2∨n.kind=12):c.rn n=c.ro n.name:=by unfold Ch.rn;rw [if_pos h]
theorem Ge {c:Ch} {n:Nd} (h:¬ (n.kind=2∨n.kind=12)):c.rn n=n.name:=by unfold Ch.rn;rw [if_neg h]
theorem Zj {c:Ch}:∀ {l:List Nd},(∀ k∈l,Dp (DY c k)=Dp k∧JC (DY c k)=JC k)→G6 (l.map (DY c))=G6 l∧Vm (l.map (DY c))=Vm l
 | [],_=>⟨rfl,rfl⟩
 | a::l,h=>by
   obtain ⟨h1,h2⟩:=h a (by simp)
   obtain ⟨h3,h4⟩:=Zj (l:=l) fun k hk=>h k (by simp [hk])
   simp only [List.map_cons,G6,Vm,h1,h2,h3,h4,and_self]
theorem eB (c:Ch):∀ (m:Nat) (n:Nd),Dp n≤m→Dp (DY c n)=Dp n∧JC (DY c n)=JC n:=by
 intro m
 induction m with
 | zero=>intro n h;have:=Cf n;omega
 | succ m ih =>
   intro n h
   have hsz:=Cf n
   obtain ⟨h1,h2⟩:=Zj (c:=c) (l:=n.kids) fun k hk=>ih k (by have:=EP hk;omega)
   rw [Cf (DY c n),IY (DY c n),IY n,hsz,Ds,h1,h2]
   exact ⟨rfl,rfl⟩
theorem qF (c:Ch) (n:Nd):Dp (DY c n)=Dp n∧JC (DY c n)=JC n:=eB c (Dp n) n (Nat.le_refl _)
theorem c8 (c:Ch):∀ (m:Nat) (n:Nd),Dp n≤m→CX n→CX (DY c n):=by
 intro m
 induction m with
 | zero=>intro n h;have:=Cf n;omega
 | succ m ih =>
   intro n h hok
   have hsz:=Cf n
   obtain ⟨p1,p2,p3⟩:=(LP n).1 hok
   rw [Hq]
   refine (LP _).2 ⟨p1,by simpa using p2,fun y hy=>?_⟩
   obtain ⟨k,hk,rfl⟩:=List.mem_map.1 hy
   exact ih k (by have:=EP hk;omega) (p3 k hk)
theorem YZ {c:Ch} {n:Nd} (h:CX n):CX (DY c n):=c8 c (Dp n) n (Nat.le_refl _) h
theorem EN {c:Ch} (g:c.Good) {n:Nd} {m m':Nd} (h:CZ n m) (hn:c.rn n=m'.name) (hu:c.sw m.unit=m'.unit) (e:m'.n=m.n∧m'.fr=m.fr∧m'.to=m.to∧m'.known=m.known∧m'.tab=m.tab):CZ (DY c n) m':=by
 obtain ⟨h1,h2,h3,h4,h5,h6,h7,h8⟩:=h
 obtain ⟨e1,e2,e3,e4,e5⟩:=e
 rw [Hq]
 refine ⟨hn,?_,?_,?_,?_,?_,?_,?_⟩
 · show c.sw n.unit=_;rw [h2,hu]
 · rw [e1];exact h3
 · rw [e2];exact h4
 · rw [e3];exact h5
 · rw [e4];exact h6
 · rw [e5];exact h7
 · rw [e5];exact h8
theorem Yw {c:Ch} (g:c.Good) {k:Nd} (h:Ke k):Ke (DY c k):=by
 obtain ⟨h1,h2,h3⟩:=h
 rw [Hq]
 exact ⟨h1,by show c.sw k.unit=_;rw [h2,Ch.Gb g Ch.uJ],h3⟩
theorem kC {c:Ch} (g:c.Good) {n:Nd} (h:LL n):LL (DY c n):=by
 have e0:=Ch.Gb g Ch.Uc
 have hl:(DY c n).kids.length=n.kids.length:=by rw [Ds,List.length_map]
 have hk:=C2 c n
 rcases Oj h with k | k | k | k | k | k | k | k
 · have nn:=Ge (c:=c) (n:=n) (by omega)
   obtain ⟨a1,a2,a3,a4,a5,a6⟩:=(VW k).1 h
   refine (VW (by rw [hk];exact k)).2 ⟨by rw [Gq];exact Ch.RU g a1,by rw [Kh];exact a2,by rw [Kh];exact a3,fun e=>by rw [Kh];rw [Gq] at e;exact a4 ((Ch.Iy g Ch.pJ).1 e),by rw [hl];exact a5,EN g a6 (nn.trans a6.1) (Gq c n).symm ⟨Kh c n,rfl,rfl,rfl,rfl⟩⟩
 · have nn:=Q6 (c:=c) (n:=n) (by omega)
   obtain ⟨a1,a2,a3⟩:=(bG k).1 h
   exact (bG (by rw [hk];exact k)).2 ⟨by rw [CJ,nn];exact Ch.Vk g a1,by rw [hl];exact a2,EN g a3 (CJ c n).symm e0 ⟨rfl,rfl,rfl,rfl,rfl⟩⟩
 · have nn:=Ge (c:=c) (n:=n) (by omega)
   obtain ⟨a1,a2,a3⟩:=(aY k).1 h
   exact (aY (by rw [hk];exact k)).2 ⟨by rw [Kh];exact a1,by rw [hl];exact a2,EN g a3 (nn.trans a3.1) e0 ⟨Kh c n,rfl,rfl,rfl,rfl⟩⟩
 · have nn:=Ge (c:=c) (n:=n) (by omega)
   obtain ⟨a1,a2,a3⟩:=(gA k).1 h
   exact (gA (by rw [hk];exact k)).2 ⟨by rw [CJ,nn];exact a1,by rw [hl];exact a2,EN g a3 (CJ c n).symm e0 ⟨rfl,rfl,rfl,rfl,rfl⟩⟩
 · have nn:=Ge (c:=c) (n:=n) (by omega)
   obtain ⟨a1,a2⟩:=(ZM k).1 h
   exact (ZM (by rw [hk];exact k)).2 ⟨by rw [hl];exact a1,EN g a2 (nn.trans a2.1) e0 ⟨rfl,rfl,rfl,rfl,rfl⟩⟩
 · have nn:=Ge (c:=c) (n:=n) (by omega)
   obtain ⟨a1,a2,a3,a4⟩:=(XJ k).1 h
   refine (XJ (by rw [hk];exact k)).2 ⟨EN g a1 (CJ c n).symm e0 ⟨rfl,rfl,rfl,rfl,rfl⟩,by rw [hl];exact a2,by rw [CJ,nn];exact a3,fun e k' hk'=>?_⟩
   rw [Ds,List.getElem?_map] at hk'
   obtain ⟨y,hy,rfl⟩:=Option.map_eq_some_iff.1 hk'
   exact Yw g (a4 (by rw [CJ,nn] at e;exact e) y hy)
 · have nn:=Ge (c:=c) (n:=n) (by omega)
   obtain ⟨a1,a2,a3⟩:=(ZI k).1 h
   exact (ZI (by rw [hk];exact k)).2 ⟨by rw [CJ,nn];exact a1,EN g a2 (CJ c n).symm e0 ⟨rfl,rfl,rfl,rfl,rfl⟩,by rw [hl];exact a3⟩
 · have nn:=Ge (c:=c) (n:=n) (by omega)
   obtain ⟨a1,a2,a3⟩:=(ZR k).1 h
   have ht:(DY c n).tab=n.tab:=by rw [Hq]
   exact (ZR (by rw [hk];exact k)).2 ⟨EN g a1 (nn.trans a1.1) e0 ⟨rfl,rfl,rfl,rfl,ht⟩,by rw [ht];exact a2,by rw [hl];exact a3⟩
theorem YD {c:Ch} (g:c.Good):∀ (m:Nat) (n:Nd),Dp n≤m→J3 n→J3 (DY c n):=by
 intro m
 induction m with
 | zero=>intro n h;have:=Cf n;omega
 | succ m ih =>
   intro n h he
   have hsz:=Cf n
   obtain ⟨h1,h2⟩:=(KS n).1 he
   refine (KS _).2 ⟨kC g h1,fun y hy=>?_⟩
   rw [Ds] at hy
   obtain ⟨k,hk,rfl⟩:=List.mem_map.1 hy
   exact ih k (by have:=EP hk;omega) (h2 k hk)
theorem TZ {c:Ch} (g:c.Good) {n:Nd} (h:J3 n):J3 (DY c n):=YD g (Dp n) n (Nat.le_refl _) h
theorem Mj (c:Ch) (k:Int):∀ l:List Nd,Bi k (l.map (DY c))=Bi k l
 | []=>rfl
 | a::l=>by rw [List.map_cons,Bi,Bi,C2,Mj c k l]
theorem WB {c:Ch} (g:c.Good) {x:Nd} (hx:6≤x.kind∧x.kind≤8) (h:Bp x):Bp (DY c x):=by
 obtain ⟨h1,h2,h3⟩:=h
 have nn:=Ge (c:=c) (n:=x) (by omega)
 refine ⟨EN g h1 (nn.trans h1.1) (Ch.Gb g Ch.Uc) ⟨rfl,rfl,rfl,rfl,rfl⟩,fun e=>?_,fun e=>?_⟩
 · rw [C2] at e
   rw [Ds,List.length_map]
   refine ⟨(h2 e).1,fun y hy=>?_⟩
   obtain ⟨k,hk,rfl⟩:=List.mem_map.1 hy
   exact ⟨TZ g ((h2 e).2 k hk).1,Yw g ((h2 e).2 k hk).2⟩
 · rw [C2] at e
   rw [Ds,List.length_map]
   refine ⟨(h3 e).1,fun y hy=>?_⟩
   obtain ⟨k,hk,rfl⟩:=List.mem_map.1 hy
   exact TZ g ((h3 e).2 k hk)
theorem aH {c:Ch} (g:c.Good) {n:Nd} (h:F4 n):F4 (DY c n):=by
 have e0:=Ch.Gb g Ch.Uc
 have hl:(DY c n).kids.length=n.kids.length:=by rw [Ds,List.length_map]
 have hk:=C2 c n
 rcases RN h with k | k | k
 · have nn:=Q6 (c:=c) (n:=n) (by omega)
   obtain ⟨a1,a2,a3,a4⟩:=(uZ k).1 h
   exact (uZ (by rw [hk];exact k)).2 ⟨by rw [CJ,nn];exact Ch.Vk g a1,by rw [Gq];exact Ch.RU g a2,by rw [hl];exact a3,EN g a4 (CJ c n).symm (Gq c n).symm ⟨rfl,rfl,rfl,rfl,rfl⟩⟩
 · have nn:=Ge (c:=c) (n:=n) (by omega)
   obtain ⟨a1,a2,a3,a4,a5,a6⟩:=(u4 k).1 h
   exact (u4 (by rw [hk];exact k)).2 ⟨by rw [CJ,nn];exact a1,by rw [Gq];exact Ch.RU g a2,by rw [Kh];exact a3,by rw [Kh];exact a4,by rw [hl];exact a5,EN g a6 (CJ c n).symm (Gq c n).symm ⟨Kh c n,rfl,rfl,rfl,rfl⟩⟩
 · have nn:=Ge (c:=c) (n:=n) (by omega)
   obtain ⟨a1,a2,a3,h0,cs,e,q1,q2,q3,q4,q5⟩:=(uB k).1 h
   refine (uB (by rw [hk];exact k)).2 ⟨by rw [Kh];exact a1,by rw [CJ,nn];exact a2,EN g a3 (CJ c n).symm e0 ⟨Kh c n,rfl,rfl,rfl,rfl⟩,DY c h0,cs.map (DY c),by rw [Ds,e,List.map_cons],fun y hy=>?_,by rw [Mj];exact q2,by rw [Mj];exact q3,?_,fun y hy=>?_⟩
   · obtain ⟨k',hk',rfl⟩:=List.mem_map.1 hy
     rw [C2];exact q1 k' hk'
   · obtain ⟨b1,b2,b3,b4,b5,b6,b7⟩:=q4
     have n5:=Ge (c:=c) (n:=h0) (by omega)
     rw [IS,C2,Kh,Ds,List.length_map]
     refine ⟨b1,b2,b3,?_,?_,?_,EN g b7 (n5.trans b7.1) e0 ⟨rfl,?_,?_,?_,rfl⟩⟩<;>rw [Hq]<;>assumption
   · obtain ⟨k',hk',rfl⟩:=List.mem_map.1 hy
     exact WB g (q1 k' hk') (q5 k' hk')
theorem UM {c:Ch} (g:c.Good) {n:Nd} (h:LM n):LM (DY c n):=by
 obtain ⟨h1,h2,h3⟩:=h
 obtain ⟨s1,s2⟩:=qF c n
 refine ⟨?_,by rw [s1];exact h2,by rw [s2];exact h3⟩
 rw [C2]
 rcases h1 with ⟨k,b,hi⟩ | ⟨k,he⟩
 · have nn:=Ge (c:=c) (n:=n) (by omega)
   refine .inl ⟨k,EN g b (nn.trans b.1) (Ch.Gb g Ch.Uc) ⟨rfl,rfl,rfl,rfl,rfl⟩,fun y hy=>?_⟩
   rw [Ds] at hy
   obtain ⟨k',hk',rfl⟩:=List.mem_map.1 hy
   exact aH g (hi k' hk')
 · exact .inr ⟨k,TZ g he⟩
end Mo
end Go.Proofs.YtkfplcngmiljaaaGreatDoor
