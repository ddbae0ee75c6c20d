/- Part of a proof: see the last text. -/
import Derived.Test.YtkfplcngmiljaaaGreatDoorUul
set_option linter.unusedVariables false
set_option linter.unusedSimpArgs false
namespace Go.Proofs.YtkfplcngmiljaaaGreatDoor
open AI Go
namespace Mo
set_option maxRecDepth 100000
set_option maxHeartbeats 4000000
def Ui (s:ByteArray):Prop:=s.data.toList.length=3∧∀ c∈s.data.toList,65≤c.toNat∧c.toNat≤90
def FH (s:ByteArray):Prop:=s=A3∨s=By∨s=Cm∨Ui s
def Sl (c:UInt8):Prop:=(97≤c.toNat∧c.toNat≤122)∨(48≤c.toNat∧c.toNat≤57)∨c.toNat=95
def U6:List ByteArray:=[QS,Qy,I9,WW,Qh,P8,n9,Nc,Qg,KD,KK,A3,By,Cm,WT,Qt,KE,ML,Qc,Sy,IH,V6,R7,Qa,Nj,WM,EB,NQ,Hk,JU,GH,D5,MQ]
def FD (s:ByteArray):Prop:=(1≤s.data.toList.length∧s.data.toList.length≤16)∧(∃ b,s.data.toList[0]?=some b∧97≤b.toNat∧b.toNat≤122)∧s∉U6∧∀ c∈s.data.toList,Sl c
theorem EL {n:Nd} (h:C8 n):n.tab.ps.length≤9223372036854775807∧n.kids.length≤9223372036854775807∧∀ k∈n.kids,C8 k:=by
 obtain ⟨a,b,c⟩:=(LU n).1 h
 exact ⟨a.1,b,c⟩
theorem Lo {α:Type} {l:List α} {P:α→Prop}:(∀ (i:Nat) (y:α),l[i]?=some y→P y)↔∀ y∈l,P y :=
 ⟨fun h y hy=>(List.getElem?_of_mem hy).elim fun i hi=>h i y hi,fun h i y hi=>h y (List.mem_of_getElem? hi)⟩
theorem pQ (s:ByteArray):EV s=some (mb (s∈U6)):=by
 rw [EV]
 simp only [Cw,Bv,F5,bZ]
 refine JN ?_
 simp only [U6,List.mem_cons,List.not_mem_nil,or_false]
theorem iD (s:ByteArray):s=ByteArray.empty↔s.data.toList.length=0:=by
 constructor
 · intro h;rw [h];rfl
 · intro h
   apply ByteArray.ext
   apply Array.ext'
   rw [List.eq_nil_of_length_eq_zero h];rfl
theorem Vi (s:ByteArray):Ci s=some (mb (FD s)):=by
 rw [Ci]
 simp only [Cw,Ej,Bv,pQ,Option.bind_some]
 unfold FD
 by_cases h0:s=ByteArray.empty
 · rw [Ag h0];exact G5 fun h=>by have:=(iD s).1 h0;omega
 have h1:s.data.toList.length≠0:=fun h=>h0 ((iD s).2 h)
 rw [Af h0]
 by_cases h2:16 < ((s.data.toList.length:Nat):Int)
 · rw [Ag h2];exact G5 fun h=>by omega
 rw [Af h2]
 obtain ⟨b,hb⟩:∃ b,s.data.toList[0]?=some b:=⟨_,List.getElem?_eq_getElem (by omega)⟩
 rw [hb,Hf (v:=false) (P:=fun _ y=>Sl y) (by omega) (fun i y _=>by
   simp only [Ey,Ej,Bk,Bv,RT,Xb,V2,iX,VY,wG,pF]
   congr 2
   unfold Sl
   apply propext
   omega)]
 simp only [Option.bind_some,F5,cS,Lo]
 refine JN ?_
 constructor
 · rintro ⟨h3,h4,h5,h6⟩
   exact ⟨by omega,⟨b,rfl,by omega⟩,h5,h6⟩
 · rintro ⟨h3,⟨c,hc,h4⟩,h5,h6⟩
   cases hc
   exact ⟨by omega,by omega,h5,h6⟩
theorem lK (s:ByteArray):D8 s=some (mb (Ui s)):=by
 rw [D8,Bk,Bv]
 unfold Ui
 by_cases h:((s.data.toList.length:Nat):Int)=3
 · rw [Ag h,Hf (v:=false) (P:=fun _ y=>65≤y.toNat∧y.toNat≤90) (by omega) (fun i y _=>by
     simp only [EM,Ej,Bv,V2,VY]
     congr 2;apply propext;omega),F5,Lo]
   exact JN ⟨fun h2=>⟨by omega,h2⟩,fun h2=>h2.2⟩
 · rw [Af h];exact G5 fun h2=>h (by omega)
theorem Vy (s:ByteArray):CJ s=some (mb (FH s)):=by
 rw [CJ]
 simp only [Cw,Bv,lK,Option.bind_some,bZ]
 rfl
def EK (n:Int):Prop:=1≤n∧n≤1000000
theorem L3 (n:Int):BY n=some (mb (EK n)):=by
 rw [BY]
 simp only [Fy,Bv,F5,Ee]
 rfl
def WQ (n:Int):Prop:=0≤n∧n≤36524
def Ov (s:ByteArray):Prop:=s=EB∨s=NQ∨s=Hk∨s=JU
theorem XQ (s:ByteArray):Dq s=some (mb (Ov s)):=by
 rw [Dq]
 simp only [Cw,Bv,F5,bZ]
 rfl
theorem Za (a b:List Pc) (ha:a.length≤9223372036854775807):F7 a b=some (mb (a=b)):=by
 rw [F7,Bk,Bv]
 by_cases h:((a.length:Nat):Int)=((b.length:Nat):Int)
 · rw [Ag h,Hf (v:=false) (P:=fun i y=>b[i]?=some y) ha (fun i y hy=>by
     have hi:i < a.length:=(List.getElem?_eq_some_iff.1 hy).1
     have hb:b[i]?=some b[i]:=List.getElem?_eq_getElem (by omega)
     simp only [GS]
     rw [hb]
     simp only [Option.bind_some]
     have hs:MX y b[i]=mb (b[i]?=some y):=by
       rw [Bool.eq_iff_iff,Bj,hb]
       unfold MX
       simp only [Bool.and_eq_true,JL,beq_iff_eq,Option.some.injEq]
       generalize b[i]=z
       cases y;cases z
       simp only [Pc.mk.injEq]
       grind
     rw [hs,Bv,RT,hb]),F5]
   refine JN ⟨fun h2=>?_,fun h2 i y hy=>by rw [← h2];exact hy⟩
   apply List.ext_getElem?
   intro i
   by_cases hi:i < a.length
   · rw [List.getElem?_eq_getElem hi,h2 i _ (List.getElem?_eq_getElem hi)]
   · rw [List.getElem?_eq_none (by omega),List.getElem?_eq_none (by omega)]
 · rw [Af h];exact G5 fun h2=>h (by rw [h2])
def C1 (n f:Nd):Prop:=n.name=f.name∧n.unit=f.unit∧n.n=f.n∧n.fr=f.fr∧n.to=f.to∧n.known=f.known∧n.tab.den=f.tab.den∧n.tab.ps=f.tab.ps
theorem Pn (n f:Nd) (h:n.tab.ps.length≤9223372036854775807):A6 n f=some (mb (C1 n f)):=by
 rw [A6,Za _ _ h]
 simp only [Cw,Bk,Bv,Option.bind_some,Ee]
 rfl
end Mo
end Go.Proofs.YtkfplcngmiljaaaGreatDoor
namespace Go.Proofs.YtkfplcngmiljaaaGreatDoor
open AI Go
namespace Mo
set_option maxRecDepth 100000
set_option maxHeartbeats 4000000
theorem Tv {p:Prop} (h:¬ p):mb p=false:=by rw [NE];exact h
def Out (r:Option (Bool×Int)) (P:Prop) (t:Int):Prop:=∃ z,r=some (mb P,z)∧(P→z=t)
theorem Out.congr {r:Option (Bool×Int)} {P Q:Prop} {t u:Int} (h:Out r P t) (hp:P↔Q) (ht:Q→t=u):Out r Q u:=by
 obtain ⟨z,h1,h2⟩:=h
 exact ⟨z,by rw [h1,FM hp],fun q=>(h2 (hp.2 q)).trans (ht q)⟩
theorem Fz {Q:Prop} {z u:Int} (h:¬ Q):Out (some (false,z)) Q u:=⟨z,by rw [Tv h],fun q=>absurd q h⟩
theorem Mg {P Q:Prop} {u:Int} (h:P↔Q):Out (some (mb P,u)) Q u:=⟨u,by rw [FM h],fun _=>rfl⟩
theorem D3 {p Q:Prop} {A:Option (Bool×Int)} {z u:Int} (h:p→Out A Q u) (hq:Q→p):Out (AN p A (some (false,z))) Q u:=by
 by_cases hp:p
 · rw [Ag hp];exact h hp
 · rw [Af hp];exact Fz fun q=>hp (hq q)
theorem Se {p Q:Prop} {A:Option (Bool×Int)} {z u:Int} (h:¬ p→Out A Q u) (hq:Q→¬ p):Out (AN p (some (false,z)) A) Q u:=by
 by_cases hp:p
 · rw [Ag hp];exact Fz fun q=>hq q hp
 · rw [Af hp];exact h hp
mutual
def Du:Nd→Nat
 | ⟨_,_,_,_,_,_,_,_,kids,_⟩=>1+GQ kids
def GQ:List Nd→Nat
 | []=>0
 | k::ks=>Du k+GQ ks
end
mutual
def JM:Nd→Nat
 | ⟨_,_,_,_,_,_,_,_,kids,_⟩=>1+UR kids
def UR:List Nd→Nat
 | []=>0
 | k::ks=>max (JM k) (UR ks)
end
theorem Cu (n:Nd):Du n=1+GQ n.kids:=by cases n;rw [Du]
theorem I3 (n:Nd):JM n=1+UR n.kids:=by cases n;rw [JM]
theorem Pv {l:List Nd} {m:Nat}:UR l≤m↔∀ k∈l,JM k≤m:=by
 induction l with
 | nil=>simp [UR]
 | cons a l ih=>simp only [UR,Nat.max_le,ih,List.mem_cons,forall_eq_or_imp]
theorem Fo {l:List Nd} {k:Nd} (h:k∈l):Du k≤GQ l:=by
 induction l with
 | nil=>cases h
 | cons a l ih =>
   rw [GQ]
   rcases List.mem_cons.1 h with rfl | h
   · omega
   · have:=ih h;omega
theorem N7 (l:List Nd):l.length≤GQ l:=by
 induction l with
 | nil=>simp [GQ]
 | cons a l ih=>rw [GQ,Cu];simp only [List.length_cons];omega
theorem Mb {n k:Nd} (h:k∈n.kids):Du k < Du n:=by rw [Cu n];have:=Fo h;omega
theorem Ko {g:Ck→Nd→Int→Option (Bool×Int)} {p:Nd→Prop} {d:Int}:∀ {l:List Nd} {i:Nat} {c:Int},0≤c→c≤2000→(∀ k∈l,∀ c:Int,0≤c→c≤2000→Out (g ⟨c⟩ k d) (p k∧c+Du k≤2000∧d+JM k≤41) (c+Du k)) →
   Out ((AT (δ:=Int) (ρ:=Bool×Int) (fun _ y (x:Int)=>(g ⟨x⟩ y d).bind fun (y1a,y1b)=>cond y1a (some (.nx y1b)) (some (.rt (false,y1b)))) (fun x=>x) l i c).bind (GA (fun (w:Int)=>some (true,w)) (fun v=>some v)))
     ((∀ k∈l,p k∧d+JM k≤41)∧c+GQ l≤2000) (c+GQ l)
 | [],i,c,h0,h1,_=>⟨c,by rw [Bj.2 ⟨fun k hk=>(by cases hk),by simp only [GQ];omega⟩];rfl,fun _=>by simp [GQ]⟩
 | y::l,i,c,h0,h1,hg=>by
   obtain ⟨z,hz,h2⟩:=hg y (by simp) c h0 h1
   rw [AT,hz]
   simp only [Option.bind_some]
   by_cases hp:p y∧c+Du y≤2000∧d+JM y≤41
   · rw [Bj.2 hp,h2 hp]
     show Out ((AT _ _ l (i+1) (c+Du y)).bind _) _ _
     refine (Ko (l:=l) (i:=i+1) (c:=c+Du y) (by omega) hp.2.1 fun k hk=>hg k (by simp [hk])).congr ?_ ?_
     · rw [GQ]
       simp only [List.mem_cons,forall_eq_or_imp,Int.natCast_add]
       constructor
       · rintro ⟨a,b⟩;exact ⟨⟨⟨hp.1,hp.2.2⟩,a⟩,by omega⟩
       · rintro ⟨⟨_,a⟩,b⟩;exact ⟨a,by omega⟩
     · intro _;rw [GQ];omega
   · rw [Tv hp]
     refine ⟨z,?_,fun q=>?_⟩
     · show some (false,z)=_
       rw [Tv]
       rintro ⟨a,b⟩
       rw [GQ] at b
       have:=a y (by simp)
       exact hp ⟨this.1,by omega,this.2⟩
     · exfalso
       obtain ⟨a,b⟩:=q
       rw [GQ] at b
       have:=a y (by simp)
       exact hp ⟨this.1,by omega,this.2⟩
theorem OK (n:Nd) {c d:Int} (h0:0≤c) (h1:c≤2000):Out (Bg ⟨c⟩ n d) (c+1≤2000∧d≤40) (c+1):=by
 rw [Bg,C4 (by show _≤c+1∧c+1≤_;omega)]
 simp only [Fy,Bv,Option.bind_some]
 by_cases h:c+1≤2000
 · rw [Ag h];exact Mg ⟨fun a=>⟨h,a⟩,fun a=>a.2⟩
 · rw [Af h];exact Fz fun a=>h a.1
def L5 (f:Fn) (i:Nat) (p:Pc):Prop:=p.fr≤999999999999∧(∀ q,0 < i→f.ps[i - 1]?=some q→q.fr < p.fr)∧PJ p.att f.den=some 0∧p.att≤PO 999999999999 f.den∧PO (-999999999999) f.den≤p.att∧p.slope≤1000000∧-1000000≤p.slope
def Uk (f:Fn):Prop:=EK f.den∧(1≤f.ps.length∧f.ps.length≤64)∧(∀ x,f.ps[0]?=some x→x.fr=0)∧∀ (i:Nat) p,f.ps[i]?=some p→L5 f i p
theorem pW (f:Fn) (hl:f.ps.length≤9223372036854775807):DB f=some (mb (Uk f)):=by
 rw [DB,L3]
 simp only [Option.bind_some,Bv,Ej,Bk]
 unfold Uk
 by_cases hr:EK f.den
 rotate_left
 · rw [Af hr];exact G5 fun h=>hr h.1
 rw [Ag hr]
 by_cases h1:((f.ps.length:Nat):Int) < 1
 · rw [Ag h1];exact G5 fun h=>by omega
 rw [Af h1]
 by_cases h2:64 < ((f.ps.length:Nat):Int)
 · rw [Ag h2];exact G5 fun h=>by omega
 rw [Af h2]
 have hx0:f.ps[0]?=some f.ps[0]:=List.getElem?_eq_getElem (by omega)
 rw [hx0]
 simp only [Option.bind_some]
 by_cases h3:f.ps[0].fr=0
 rotate_left
 · rw [Af h3];exact G5 fun h=>h3 (h.2.2.1 _ rfl)
 rw [Ag h3]
 have hden:f.den≠0:=by unfold EK at hr;omega
 rw [Hf (v:=false) (P:=fun i y=>L5 f i y) hl (fun i y hy=>by
   have hi:i < f.ps.length:=(List.getElem?_eq_some_iff.1 hy).1
   simp only [D2,Ej,Bv,Fy,Bk]
   have hd:∃ z,PJ y.att f.den=some z:=by unfold PJ;rw [if_neg hden];exact ⟨_,rfl⟩
   obtain ⟨z,hz⟩:=hd
   unfold L5
   rw [hz]
   by_cases h0:(0:Int) < ((i:Nat):Int)
   · rw [Ag h0,Mk (by omega)]
     have hq:f.ps[i - 1]?=some f.ps[i - 1]:=List.getElem?_eq_getElem (by omega)
     have hg:RU f.ps (((i:Nat):Int) - 1)=some f.ps[i - 1]:=by
       unfold RU
       rw [show (((i:Nat):Int) - 1).toNat=i - 1 by omega]
       simp only [hq]
       first | rfl | (rw [if_pos (by omega)])
     rw [hg,hq]
     simp only [Option.bind_some,V2,VY,Xb,iX]
     congr 2
     apply propext
     simp only [Option.some.injEq,forall_eq']
     grind
   · rw [Af h0]
     simp only [Option.bind_some,V2,VY,Xb,iX]
     congr 2
     apply propext
     simp only [Option.some.injEq]
     have:¬ 0 < i:=by omega
     grind),F5]
 refine JN ⟨fun h=>⟨hr,by omega,fun x hx=>by cases hx;exact h3,h⟩,fun h=>h.2.2.2⟩
def PU (s:ByteArray):Prop:=s=Jo∨s=Sy∨s=IH∨s=Ir∨s=IB∨s=On∨s=Iz∨s=KV∨s=IY∨s=Oi∨s=R7
def J4 (k:Nd):Prop:=k.kind=11∧k.unit=By∧EK k.n
def LC (n:Nd):Prop :=
 (n.kind=11∧FH n.unit∧0≤n.n∧n.n≤999999999999∧(n.unit=A3→n.n≤1)∧n.kids.length=0∧C1 n ⟨0,ByteArray.empty,n.unit,n.n,0,0,0,⟨0,[]⟩,[],0⟩) ∨
 (n.kind=12∧FD n.name∧n.kids.length=0∧C1 n ⟨0,n.name,ByteArray.empty,0,0,0,0,⟨0,[]⟩,[],0⟩) ∨
 (n.kind=13∧EK n.n∧n.kids.length=0∧C1 n ⟨0,ByteArray.empty,ByteArray.empty,n.n,0,0,0,⟨0,[]⟩,[],0⟩) ∨
 (n.kind=14∧Ov n.name∧n.kids.length=0∧C1 n ⟨0,n.name,ByteArray.empty,0,0,0,0,⟨0,[]⟩,[],0⟩) ∨
 (n.kind=15∧n.kids.length=1∧C1 n ⟨0,ByteArray.empty,ByteArray.empty,0,0,0,0,⟨0,[]⟩,[],0⟩) ∨
 (n.kind=16∧C1 n ⟨0,n.name,ByteArray.empty,0,0,0,0,⟨0,[]⟩,[],0⟩∧n.kids.length=2∧PU n.name∧(n.name=Jo→∀ k,n.kids[1]?=some k→J4 k)) ∨
 (n.kind=17∧(n.name=GH∨n.name=D5)∧C1 n ⟨0,n.name,ByteArray.empty,0,0,0,0,⟨0,[]⟩,[],0⟩∧2≤n.kids.length) ∨
 (n.kind=18∧C1 n ⟨0,ByteArray.empty,ByteArray.empty,0,0,0,0,n.tab,[],0⟩∧Uk n.tab∧n.kids.length=1)
mutual
def JW:Nd→Prop
 | ⟨kind,name,unit,n,fr,to,known,tab,kids,att⟩=>LC ⟨kind,name,unit,n,fr,to,known,tab,kids,att⟩∧XX kids
def XX:List Nd→Prop
 | []=>True
 | k::ks=>JW k∧XX ks
end
theorem Ys {l:List Nd}:XX l↔∀ k∈l,JW k:=by
 induction l with
 | nil=>simp [XX]
 | cons k l ih=>simp [XX,ih]
theorem KO (n:Nd):JW n↔LC n∧∀ k∈n.kids,JW k:=by cases n;rw [JW,Ys]
end Mo
end Go.Proofs.YtkfplcngmiljaaaGreatDoor
namespace Go.Proofs.YtkfplcngmiljaaaGreatDoor
open AI Go
namespace Mo
set_option maxRecDepth 100000
set_option maxHeartbeats 4000000
theorem G7 {r:Option (Bool×Int)} {P Q:Prop} {t u:Int} {f:Bool×Int→Option (Bool×Int)} (h:Out r P t) (hT:P→Out (f (true,t)) Q u) (hF:∀ z,¬ P→Out (f (false,z)) Q u):Out (r.bind f) Q u:=by
 obtain ⟨z,rfl,h2⟩:=h
 by_cases hp:P
 · rw [Bj.2 hp,h2 hp];exact hT hp
 · rw [Tv hp];exact hF z hp
theorem lB {Q:Prop} {t u:Int} (hq:Q) (h:t=u):Out (some (true,t)) Q u:=⟨t,by rw [Bj.2 hq],fun _=>h⟩
theorem Hb {r:Option (Bool×Int)} {P Q:Prop} {t u:Int} (h:Out r P t) (hp:P↔Q) (ht:P→t=u):Out (r.bind fun (a,b)=>some (a,b)) Q u :=
 G7 h (fun p=>lB (hp.1 p) (ht p)) fun _ p=>Fz fun q=>p (hp.2 q)
section
variable {p q r:Prop} {z:Int}
theorem RM:AN p (some (mb q,z)) (some (false,z))=some (mb (p∧q),z):=by
 by_cases h:p
 · rw [Ag h];congr 2;exact FM ⟨fun a=>⟨h,a⟩,fun a=>a.2⟩
 · rw [Af h,Tv];exact fun a=>h a.1
theorem TW:AN p (some (false,z)) (some (mb q,z))=some (mb (¬ p∧q),z):=by
 by_cases h:p
 · rw [Ag h,Tv];exact fun a=>a.1 h
 · rw [Af h];congr 2;exact FM ⟨fun a=>⟨h,a⟩,fun a=>a.2⟩
theorem V8:AN p (some (mb q,z)) (some (mb r,z))=some (mb ((p→q)∧(¬ p→r)),z):=by
 by_cases h:p
 · rw [Ag h];congr 2;exact FM ⟨fun a=>⟨fun _=>a,fun b=>absurd h b⟩,fun a=>a.1 h⟩
 · rw [Af h];congr 2;exact FM ⟨fun a=>⟨fun b=>absurd b h,fun _=>a⟩,fun a=>a.2 h⟩
end
section
variable {n:Nd}
theorem VQ (h:n.kind=11):LC n↔FH n.unit∧0≤n.n∧n.n≤999999999999∧(n.unit=A3→n.n≤1)∧n.kids.length=0∧C1 n ⟨0,ByteArray.empty,n.unit,n.n,0,0,0,⟨0,[]⟩,[],0⟩:=by unfold LC;simp [h]
theorem fF (h:n.kind=12):LC n↔FD n.name∧n.kids.length=0∧C1 n ⟨0,n.name,ByteArray.empty,0,0,0,0,⟨0,[]⟩,[],0⟩:=by unfold LC;simp [h]
theorem eO (h:n.kind=13):LC n↔EK n.n∧n.kids.length=0∧C1 n ⟨0,ByteArray.empty,ByteArray.empty,n.n,0,0,0,⟨0,[]⟩,[],0⟩:=by unfold LC;simp [h]
theorem cO (h:n.kind=14):LC n↔Ov n.name∧n.kids.length=0∧C1 n ⟨0,n.name,ByteArray.empty,0,0,0,0,⟨0,[]⟩,[],0⟩:=by unfold LC;simp [h]
theorem Zc (h:n.kind=15):LC n↔n.kids.length=1∧C1 n ⟨0,ByteArray.empty,ByteArray.empty,0,0,0,0,⟨0,[]⟩,[],0⟩:=by unfold LC;simp [h]
theorem Yb (h:n.kind=16):LC n↔C1 n ⟨0,n.name,ByteArray.empty,0,0,0,0,⟨0,[]⟩,[],0⟩∧n.kids.length=2∧PU n.name∧(n.name=Jo→∀ k,n.kids[1]?=some k→J4 k):=by unfold LC;simp [h]
theorem ZL (h:n.kind=17):LC n↔(n.name=GH∨n.name=D5)∧C1 n ⟨0,n.name,ByteArray.empty,0,0,0,0,⟨0,[]⟩,[],0⟩∧2≤n.kids.length:=by unfold LC;simp [h]
theorem Yy (h:n.kind=18):LC n↔C1 n ⟨0,ByteArray.empty,ByteArray.empty,0,0,0,0,n.tab,[],0⟩∧Uk n.tab∧n.kids.length=1:=by unfold LC;simp [h]
theorem NW (h:LC n):n.kind=11∨n.kind=12∨n.kind=13∨n.kind=14∨n.kind=15∨n.kind=16∨n.kind=17∨n.kind=18:=by
 unfold LC at h
 rcases h with h | h | h | h | h | h | h | h
 all_goals
   have:=h.1
   simp [this]
end
def IS (l:List Nd) (c d:Int):Prop:=(∀ k∈l,JW k∧d+JM k≤41)∧c+GQ l≤2000
theorem hJ {l:List Nd} {c d:Int} (h:l.length=0) (hc:c≤2000):IS l c d∧c=c+GQ l:=by
 obtain rfl:=List.eq_nil_of_length_eq_zero h
 exact ⟨⟨(fun k hk=>(by cases hk)),(by simp only [GQ];omega)⟩,(by simp [GQ])⟩
theorem fY {x:Nd} {c d:Int}:IS [x] c d↔JW x∧c+Du x≤2000∧d+JM x≤41:=by
 unfold IS
 simp only [List.mem_singleton,forall_eq,GQ,Nat.add_zero]
 exact ⟨fun a=>⟨a.1.1,a.2,a.1.2⟩,fun a=>⟨⟨a.1,a.2.2⟩,a.2.1⟩⟩
theorem S5 {x y:Nd} {c d:Int}:IS [x,y] c d↔(JW x∧c+Du x≤2000∧d+JM x≤41)∧JW y∧c+Du x+Du y≤2000∧d+JM y≤41:=by
 unfold IS
 simp only [List.mem_cons,List.not_mem_nil,or_false,forall_eq_or_imp,forall_eq,GQ,Nat.add_zero,Int.natCast_add]
 constructor
 · rintro ⟨⟨⟨a,b⟩,c',d'⟩,e⟩;exact ⟨⟨a,by omega,b⟩,c',by omega,d'⟩
 · rintro ⟨⟨a,b,c'⟩,d',e,f⟩;exact ⟨⟨⟨a,c'⟩,d',f⟩,by omega⟩
abbrev pH (g:Ck→Nd→Int→Option (Bool×Int)) (n:Nd):Prop:=∀ (c d:Int),0≤c→c≤2000→0≤d→d≤41→Out (g ⟨c⟩ n d) (JW n∧c+Du n≤2000∧d+JM n≤41) (c+Du n)
theorem QN {g:Ck→Nd→Int→Option (Bool×Int)} {b a:Ck→Nd→Int→Option (Bool×Int)} {l:Ck→List Nd→Int→Option (Bool×Int)} {n:Nd} (h:pH g n) {c d:Int} (h0:0≤c) (h1:c≤2000) (h2:0≤d) (h3:d≤41) :
   Out (BA g b a l ⟨c⟩ n d) ((JW n∧J4 n)∧c+Du n≤2000∧d+JM n≤41) (c+Du n):=by
 rw [BA]
 simp only [Bk,Cw,Bv,L3,Option.bind_some]
 refine G7 (h c d h0 h1 h2 h3) (fun hp=>?_) fun z hp=>Fz fun q=>hp ⟨q.1.1,q.2⟩
 show Out (AN (n.kind=11) (AN (n.unit=By) (some (mb (EK n.n),c+Du n)) (some (false,c+Du n))) (some (false,c+Du n))) _ _
 rw [RM,RM]
 exact Mg ⟨fun a=>⟨⟨hp.1,a⟩,hp.2⟩,fun a=>a.1.2⟩
theorem VL {g n':Ck→Nd→Int→Option (Bool×Int)} {b:Ck→Nd→Int→Option (Bool×Int)} {l:Ck→List Nd→Int→Option (Bool×Int)} {n:Nd} (hg:∀ k∈n.kids,pH g k)
   (hn:∀ k∈n.kids,∀ c d:Int,0≤c→c≤2000→0≤d→d≤41→Out (n' ⟨c⟩ k d) ((JW k∧J4 k)∧c+Du k≤2000∧d+JM k≤41) (c+Du k)) {c d:Int} (h0:0≤c) (h1:c≤2000) (h2:0≤d) (h3:d≤40) :
   Out (BB g b n' l ⟨c⟩ n d) ((n.kids.length=2∧PU n.name∧(n.name=Jo→∀ k,n.kids[1]?=some k→J4 k))∧IS n.kids c (d+1)) (c+GQ n.kids):=by
 rw [BB,C4 (by omega)]
 simp only [Bk,Cw,Bv]
 generalize hl:n.kids=ks at *
 by_cases hlen:((ks.length:Nat):Int)=2
 rotate_left
 · rw [Af hlen];exact Fz fun q=>hlen (by have:=q.1.1;omega)
 rw [Ag hlen]
 match ks,hlen with
 | [x,y],_ =>
 simp only [List.getElem?_cons_zero,List.getElem?_cons_succ,Option.bind_some]
 refine G7 (hg x (by simp) c (d+1) h0 h1 (by omega) (by omega)) (fun hx=>?_) fun z hx=>Fz fun q=>hx (S5.1 q.2).1
 dsimp only
 rw [cond_true]
 have hsz:GQ [x,y]=Du x+Du y:=by simp [GQ]
 have hy:=fun hc=>hg y (by simp) (c+Du x) (d+1) (by omega) hc (by omega) (by omega)
 have hn':=fun hc=>hn y (by simp) (c+Du x) (d+1) (by omega) hc (by omega) (by omega)
 have hy:=hy hx.2.1
 have hn':=hn' hx.2.1
 by_cases hs:n.name=Jo
 · rw [Ag hs]
   refine Hb hn' ⟨fun a=>⟨⟨rfl,.inl hs,fun _ k hk=>by cases hk;exact a.1.2⟩,S5.2 ⟨hx,a.1.1,a.2⟩⟩,fun a=>?_⟩ (fun a=>by rw [hsz];omega)
   have:=(S5.1 a.2).2
   exact ⟨⟨this.1,a.1.2.2 hs y rfl⟩,this.2⟩
 · rw [Af hs]
   have fin:∀ hop:PU n.name,Out ((g ⟨c+Du x⟩ y (d+1)).bind fun (a,b)=>some (a,b)) ((([x,y]:List Nd).length=2∧PU n.name∧(n.name=Jo→∀ k,some y=some k→J4 k))∧IS [x,y] c (d+1)) (c+GQ [x,y]):=fun hop =>
     Hb hy ⟨fun a=>⟨⟨rfl,hop,fun e=>absurd e hs⟩,S5.2 ⟨hx,a⟩⟩,fun a=>(S5.1 a.2).2⟩ (fun a=>by rw [hsz];omega)
   have step:∀ {s:ByteArray} {A:Option (Bool×Int)},(n.name=s→PU n.name)→(n.name≠s→Out A ((([x,y]:List Nd).length=2∧PU n.name∧(n.name=Jo→∀ k,some y=some k→J4 k))∧IS [x,y] c (d+1)) (c+GQ [x,y])) →
       Out (AN (n.name=s) ((g ⟨c+Du x⟩ y (d+1)).bind fun (a,b)=>some (a,b)) A) ((([x,y]:List Nd).length=2∧PU n.name∧(n.name=Jo→∀ k,some y=some k→J4 k))∧IS [x,y] c (d+1)) (c+GQ [x,y]):=by
     intro s A h4 h5
     by_cases h:n.name=s
     · rw [Ag h];exact fin (h4 h)
     · rw [Af h];exact h5 h
   refine step (fun e=>by unfold PU;simp [e]) fun e1=>?_
   refine step (fun e=>by unfold PU;simp [e]) fun e2=>?_
   refine step (fun e=>by unfold PU;simp [e]) fun e3=>?_
   refine step (fun e=>by unfold PU;simp [e]) fun e4=>?_
   refine step (fun e=>by unfold PU;simp [e]) fun e5=>?_
   refine step (fun e=>by unfold PU;simp [e]) fun e6=>?_
   refine step (fun e=>by unfold PU;simp [e]) fun e7=>?_
   refine step (fun e=>by unfold PU;simp [e]) fun e8=>?_
   refine step (fun e=>by unfold PU;simp [e]) fun e9=>?_
   refine step (fun e=>by unfold PU;simp [e]) fun oH=>?_
   exact Fz fun q=>by
     have:=q.1.2.1
     unfold PU at this
     simp [hs,e1,e2,e3,e4,e5,e6,e7,e8,e9,oH] at this
theorem Zm {A L B T:Prop} {x:Int}:(A∧¬ x < 0∧¬ 999999999999 < x∧(T→¬ 1 < x∧L∧B)∧(¬ T→L∧B))↔A∧0≤x∧x≤999999999999∧(T→x≤1)∧L∧B:=by
 constructor
 · rintro ⟨a,b,c,d,e⟩
   by_cases t:T
   · exact ⟨a,by omega,by omega,fun _=>by have:=(d t).1;omega,(d t).2⟩
   · exact ⟨a,by omega,by omega,fun h=>absurd h t,e t⟩
 · rintro ⟨a,b,c,d,e⟩
   exact ⟨a,by omega,by omega,fun t=>⟨by have:=d t;omega,e⟩,fun _=>e⟩
theorem YL:∀ (q:Nat) (n:Nd),C8 n→3*Du n≤q→pH (At q) n:=by
 intro q
 induction q using Nat.strongRecOn with
 | _ q ih =>
 intro n hok hq c d h0 h1 h2 h3
 have hsz:=Cu n
 obtain ⟨q,rfl⟩:∃ k,q=k+1:=⟨q - 1,by omega⟩
 obtain ⟨hps,hkl,hks⟩:=EL hok
 have hE:∀ k∈n.kids,∀ q',q≤q'+2→q' < q+1→pH (At q') k:=fun k hk q' h4 h5=>ih q' h5 k (hks k hk) (by have:=Fo hk;omega)
 rw [At,Cl]
 refine G7 (OK n h0 h1) (fun hp=>?_) fun z hp=>Fz fun a=>hp ⟨by omega,by have:=I3 n;omega⟩
 dsimp only
 rw [cond_true]
 refine Out.congr (P:=LC n∧IS n.kids (c+1) (d+1)) (t:=(c+1)+GQ n.kids) ?_ ?_ (fun _=>by omega)
 rotate_left
 · rw [KO,I3]
   unfold IS
   have hd:=@Pv n.kids
   constructor
   · rintro ⟨a,b,e⟩
     refine ⟨⟨a,fun k hk=>(b k hk).1⟩,by omega,?_⟩
     have:=(hd (m:=(40 - d).toNat)).2 fun k hk=>by have:=(b k hk).2;omega
     omega
   · rintro ⟨⟨a,b⟩,e,f⟩
     refine ⟨a,fun k hk=>⟨b k hk,?_⟩,by omega⟩
     have:=(hd (m:=UR n.kids)).1 (Nat.le_refl _) k hk
     omega
 have hc1:=hp.1
 have hd1:=hp.2
 rw [C4 (a:=d) (b:=1) (by omega)]
 have e0:(((n.kids.length:Nat):Int)=0)=(n.kids.length=0):=propext (by omega)
 simp only [Bk,Fy,Ej,Cw,Bv,Vy,Vi,L3,XQ,pW _ hps,Pn _ _ hps,Option.bind_some,e0]
 have hleaf:∀ {B:Prop},(B↔LC n)→(B→n.kids.length=0)→Out (some (mb B,c+1)) (LC n∧IS n.kids (c+1) (d+1)) (c+1+GQ n.kids):=fun hB hk=>(Mg hB).congr ⟨fun a=>⟨a,(hJ (hk (hB.2 a)) hc1).1⟩,fun a=>a.1⟩ fun a=>(hJ (d:=d+1) (hk (hB.2 a.1)) hc1).2
 have hone:∀ {B:Prop},(LC n↔B∧n.kids.length=1)→B→n.kids.length=1→Out ((n.kids[0]?).bind fun x=>(At q ⟨c+1⟩ x (d+1)).bind fun (a,b)=>some (a,b)) (LC n∧IS n.kids (c+1) (d+1)) (c+1+GQ n.kids):=by
   intro B hB hb hl
   have hE0:=fun k hk=>hE k hk q (by omega) (by omega)
   have hx:=hB.2 ⟨hb,hl⟩
   generalize n.kids=ks at *
   match ks,hl with
   | [x],_ =>
   simp only [List.getElem?_cons_zero,Option.bind_some]
   refine Hb (hE0 x (by simp) (c+1) (d+1) (by omega) hc1 (by omega) (by omega)) ⟨fun a=>⟨hx,fY.2 a⟩,fun a=>fY.1 a.2⟩ fun _=>?_
   simp [GQ]
 by_cases W8:n.kind=11
 · rw [Ag W8]
   simp only [RM,TW,V8]
   refine hleaf ?_ ?_
   · rw [VQ W8];exact Zm
   · intro h;exact (Zm.1 h).2.2.2.2.1
 rw [Af W8]
 by_cases Vd:n.kind=12
 · rw [Ag Vd]
   simp only [RM,TW,V8]
   refine hleaf ?_ ?_
   · rw [fF Vd]
   · intro h;exact h.2.1
 rw [Af Vd]
 by_cases Zu:n.kind=13
 · rw [Ag Zu]
   simp only [RM,TW,V8]
   refine hleaf ?_ ?_
   · rw [eO Zu]
   · intro h;exact h.2.1
 rw [Af Zu]
 by_cases XZ:n.kind=14
 · rw [Ag XZ]
   simp only [RM,TW,V8]
   refine hleaf ?_ ?_
   · rw [cO XZ]
   · intro h;exact h.2.1
 rw [Af XZ]
 by_cases Xr:n.kind=15
 · rw [Ag Xr]
   have e:=Zc Xr
   refine D3 (fun hl=>D3 (fun hb=>hone (e.trans And.comm) hb (by omega)) fun a=>(e.1 a.1).2) fun a=>?_
   have:=(e.1 a.1).1
   omega
 rw [Af Xr]
 by_cases Vc:n.kind=16
 · rw [Ag Vc]
   have e:=Yb Vc
   refine D3 (fun hb=>?_) fun a=>(e.1 a.1).1
   obtain ⟨q,rfl⟩:∃ k,q=k+1:=⟨q - 1,by omega⟩
   rw [AD]
   refine Hb (VL (g:=At q) (b:=AD q) (n':=Av q) (l:=As q) (fun k hk=>hE k hk q (by omega) (by omega)) (fun k hk c d a1 a2 a3 a4=>?_) (by omega) hc1 h2 hd1) ?_ fun _=>rfl
   · obtain ⟨q,rfl⟩:∃ k,q=k+1:=⟨q - 1,by have:=Mb hk;have:=Cu k;omega⟩
     rw [Av]
     exact QN (hE k hk q (by omega) (by omega)) a1 a2 a3 a4
   · rw [e]
     exact ⟨fun a=>⟨⟨hb,a.1⟩,a.2⟩,fun a=>⟨a.1.2,a.2⟩⟩
 rw [Af Vc]
 by_cases X6:n.kind=17
 · rw [Ag X6]
   have e:=ZL X6
   have hall:(n.name=GH∨n.name=D5)→Out (AN (C1 n ⟨0,n.name,ByteArray.empty,0,0,0,0,⟨0,[]⟩,[],0⟩) (AN (2≤((n.kids.length:Nat):Int)) ((As q ⟨c+1⟩ n.kids (d+1)).bind fun (a,b)=>some (a,b)) (some (false,c+1))) (some (false,c+1))) (LC n∧IS n.kids (c+1) (d+1)) (c+1+GQ n.kids):=by
     intro hn
     refine D3 (fun hb=>D3 (fun hl=>?_) fun a=>?_) fun a=>(e.1 a.1).2.1
     · obtain ⟨q,rfl⟩:∃ k,q=k+1:=⟨q - 1,by have:=N7 n.kids;omega⟩
       rw [As,BI,E3 hkl,List.drop_zero]
       dsimp only
       refine Hb (Ko (g:=At q) (p:=JW) (d:=d+1) (by omega) hc1 fun k hk c' b0 b1=>hE k hk q (by omega) (by omega) c' (d+1) b0 b1 (by omega) (by omega)) ?_ fun _=>rfl
       rw [e]
       exact ⟨fun a=>⟨⟨hn,hb,by omega⟩,a⟩,fun a=>a.2⟩
     · have:=(e.1 a.1).2.2
       omega
   by_cases hn1:n.name=GH
   · rw [Ag hn1];exact hall (.inl hn1)
   · rw [Af hn1]
     exact D3 (fun hn2=>hall (.inr hn2)) fun a=>(e.1 a.1).1.resolve_left hn1
 rw [Af X6]
 by_cases Zg:n.kind=18
 · rw [Ag Zg]
   have e:=Yy Zg
   refine D3 (fun hb=>D3 (fun ht=>D3 (fun hl=>hone (B:=C1 n ⟨0,ByteArray.empty,ByteArray.empty,0,0,0,0,n.tab,[],0⟩∧Uk n.tab) (e.trans (by rw [and_assoc])) ⟨hb,ht⟩ (by omega)) fun a=>?_) fun a=>(e.1 a.1).2.1) fun a=>(e.1 a.1).1
   have:=(e.1 a.1).2.2
   omega
 rw [Af Zg]
 exact Fz fun a=>by have:=NW a.1;omega
def Le {β:Type} (a b:Option β):Prop:=∀ y,a=some y→b=some y
section
variable {α β γ δ ρ:Type}
theorem Le.refl (a:Option β):Le a a:=fun _ h=>h
theorem GV {a a':Option α} {f g:α→Option β} (h:Le a a') (k:∀ x,Le (f x) (g x)):Le (a.bind f) (a'.bind g):=by
 intro y hy
 cases a with
 | none=>cases hy
 | some x=>rw [h x rfl];exact k x y hy
theorem Oa {b:Bool} {x x' y y':Option β} (h:Le x x') (k:Le y y'):Le (cond b x y) (cond b x' y'):=by cases b;exact k;exact h
theorem YS {n:Nat} {x x':Option β} (h:Le x x'):Le (Gy n x) (Gy n x'):=by
 unfold Gy
 split
 · exact h
 · exact Le.refl _
theorem RB {body body':Nat→α→γ→Option (Lp γ δ ρ)} {done:γ→δ} (h:∀ i y x,Le (body i y x) (body' i y x)):∀ (l:List α) (i:Nat) (x:γ),Le (AT body done l i x) (AT body' done l i x)
 | [],_,_=>Le.refl _
 | a::l,i,x=>by
   rw [AT,AT]
   refine GV (h i a x) fun z=>?_
   cases z with
   | nx x'=>exact RB h l (i+1) x'
   | ex d=>exact Le.refl _
   | rt v=>exact Le.refl _
end
theorem RA:∀ q:Nat,(∀ c n d,Le (At q c n d) (At (q+1) c n d))∧(∀ c n d,Le (AD q c n d) (AD (q+1) c n d))∧(∀ c n d,Le (Av q c n d) (Av (q+1) c n d))∧(∀ c n d,Le (As q c n d) (As (q+1) c n d))
 | 0=>⟨(fun _ _ _ _ h=>nomatch h),(fun _ _ _ _ h=>nomatch h),(fun _ _ _ _ h=>nomatch h),(fun _ _ _ _ h=>nomatch h)⟩
 | q+1=>by
   obtain ⟨i1,i2,i3,i4⟩:=RA q
   refine ⟨fun c n d=>?_,fun c n d=>?_,fun c n d=>?_,fun c n d=>?_⟩
   · rw [At,At,Cl,Cl]
     repeat' first
       | exact Le.refl _
       | exact i1 _ _ _
       | exact i2 _ _ _
       | exact i4 _ _ _
       | refine Oa ?_ ?_
       | refine GV ?_ fun ⟨_,_⟩=>?_
       | refine GV ?_ fun _=>?_
   · rw [AD,AD,BB,BB]
     repeat' first
       | exact Le.refl _
       | exact i1 _ _ _
       | exact i3 _ _ _
       | refine Oa ?_ ?_
       | refine GV ?_ fun ⟨_,_⟩=>?_
       | refine GV ?_ fun _=>?_
   · rw [Av,Av,BA,BA]
     exact GV (i1 _ _ _) fun _=>Le.refl _
   · rw [As,As,BI,BI]
     refine GV (YS (RB (fun i y x=>?_) _ _ _)) fun _=>Le.refl _
     rw [BZ,BZ]
     exact GV (i1 _ _ _) fun _=>Le.refl _
theorem TP {β:Type} {f:Nat→Option β} (h:∀ q,Le (f q) (f (q+1))) {q:Nat} {y:β} (hy:f q=some y):W4 f=some y:=by
 refine MI q fun m hm=>?_
 induction m with
 | zero=>obtain rfl:q=0:=by omega
         exact hy
 | succ m ih =>
   rcases Nat.lt_or_ge m q with hlt | hge
   · obtain rfl:q=m+1:=by omega
     exact hy
   · exact h m y (ih hge)
theorem ZC {n:Nd} (hok:C8 n):pH DF n:=by
 intro c d h0 h1 h2 h3
 obtain ⟨z,hz,hz2⟩:=YL (3*Du n) n hok (Nat.le_refl _) c d h0 h1 h2 h3
 exact ⟨z,TP (fun q=>(RA q).1 _ _ _) hz,hz2⟩
theorem Xg {n:Nd} (hok:C8 n) {c d:Int} (h0:0≤c) (h1:c≤2000) (h2:0≤d) (h3:d≤41):Out (Df ⟨c⟩ n d) ((JW n∧J4 n)∧c+Du n≤2000∧d+JM n≤41) (c+Du n):=by
 obtain ⟨z,hz,hz2⟩:=QN (g:=At (3*Du n)) (b:=AD (3*Du n)) (a:=Av (3*Du n)) (l:=As (3*Du n)) (YL (3*Du n) n hok (Nat.le_refl _)) h0 h1 h2 h3
 exact ⟨z,TP (q:=3*Du n+1) (fun q=>(RA q).2.2.1 _ _ _) (by rw [Av];exact hz),hz2⟩
end Mo
end Go.Proofs.YtkfplcngmiljaaaGreatDoor
namespace Go.Proofs.YtkfplcngmiljaaaGreatDoor
open AI Go
namespace Mo
set_option maxRecDepth 100000
set_option maxHeartbeats 4000000
abbrev z0:Nd:=⟨0,ByteArray.empty,ByteArray.empty,0,0,0,0,⟨0,[]⟩,[],0⟩
theorem nI (n:Int):Dw n=some (mb (WQ n)):=by
 rw [Dw]
 simp only [Fy,Bv,F5,Ee]
 rfl
def IM (n:Nd):Prop:=n.kind=5∧(0≤n.n∧n.n≤1000000)∧n.kids.length=0∧WQ n.fr∧(n.fr < n.to∧n.to≤36525)∧WQ n.known∧C1 n ⟨0,ByteArray.empty,ByteArray.empty,n.n,n.fr,n.to,n.known,⟨0,[]⟩,[],0⟩
def Bq (n:Nd):Prop:=C1 n z0∧(n.kind=7→0 < n.kids.length∧∀ k∈n.kids,JW k∧J4 k)∧(n.kind≠7→n.kids.length=1∧∀ k∈n.kids,JW k)
theorem UZ {n:Nd} (h:n.kids.length=0):Du n=1∧JM n=1:=by
 have:=List.eq_nil_of_length_eq_zero h
 rw [Cu,I3,this]
 exact ⟨rfl,rfl⟩
theorem nN {n:Nd} (hok:C8 n) {c d:Int} (h0:0≤c) (h1:c≤2000):Out (CZ ⟨c⟩ n d) (IM n∧c+Du n≤2000∧d+JM n≤41) (c+Du n):=by
 obtain ⟨hps,hkl,hks⟩:=EL hok
 have hsz:=Cu n
 have hdp:=I3 n
 rw [CZ]
 refine G7 (OK n h0 h1) (fun hp=>?_) fun z hp=>Fz fun a=>hp ⟨by omega,by omega⟩
 dsimp only
 rw [cond_true]
 simp only [Bk,Fy,Ej,Bv,nI,Pn _ _ hps,Option.bind_some,RM,TW]
 have key:(n.kind=5∧¬ n.n < 0∧¬ 1000000 < n.n∧¬ (0:Int) < ((n.kids.length:Nat):Int)∧WQ n.fr∧¬ n.to≤n.fr∧¬ 36525 < n.to∧WQ n.known∧C1 n ⟨0,ByteArray.empty,ByteArray.empty,n.n,n.fr,n.to,n.known,⟨0,[]⟩,[],0⟩)↔IM n:=by
   unfold IM
   constructor
   · rintro ⟨a,b,c',e,f,g,h,i,j⟩;exact ⟨a,⟨by omega,by omega⟩,by omega,f,⟨by omega,by omega⟩,i,j⟩
   · rintro ⟨a,b,c',f,g,i,j⟩;exact ⟨a,by omega,by omega,by omega,f,by omega,by omega,i,j⟩
 refine (Mg key).congr ⟨fun a=>⟨a,?_⟩,fun a=>a.1⟩ fun a=>?_
 · have:=UZ a.2.2.1;omega
 · have:=UZ a.1.2.2.1;omega
theorem XI {n:Nd} (hok:C8 n) {c d:Int} (h0:0≤c) (h1:c≤2000) (h2:0≤d):Out (BV ⟨c⟩ n d) (Bq n∧c+Du n≤2000∧d+JM n≤41) (c+Du n):=by
 obtain ⟨hps,hkl,hks⟩:=EL hok
 have hsz:=Cu n
 have hdp:=I3 n
 have hd:=@Pv n.kids
 rw [BV]
 refine G7 (OK n h0 h1) (fun hp=>?_) fun z hp=>Fz fun a=>hp ⟨by omega,by omega⟩
 dsimp only
 rw [cond_true,C4 (a:=d) (b:=1) (by omega)]
 simp only [Bk,Ej,Bv,Pn _ _ hps,Option.bind_some]
 have hc1:=hp.1
 have hd1:=hp.2
 have MF:(∀ k∈n.kids,d+1+JM k≤41)↔d+JM n≤41:=by
   constructor
   · intro h
     have:=(hd (m:=(40 - d).toNat)).2 fun k hk=>by have:=h k hk;omega
     omega
   · intro h k hk
     have:=(hd (m:=UR n.kids)).1 (Nat.le_refl _) k hk
     omega
 refine D3 (fun hb=>?_) fun a=>a.1.1
 by_cases k7:n.kind=7
 · rw [Ag k7]
   refine D3 (fun hl=>?_) fun a=>by have:=(a.1.2.1 k7).1;omega
   rw [CC,E3 hkl,List.drop_zero]
   dsimp only
   refine Hb (Ko (g:=Df) (p:=fun k=>JW k∧J4 k) (d:=d+1) (by omega) hc1 fun k hk c' b0 b1=>Xg (hks k hk) b0 b1 (by omega) (by omega)) ⟨fun a=>⟨⟨hb,fun _=>⟨by omega,fun k hk=>(a.1 k hk).1⟩,fun h=>absurd k7 h⟩,by omega,MF.1 fun k hk=>(a.1 k hk).2⟩,fun a=>⟨fun k hk=>⟨(a.1.2.1 k7).2 k hk,MF.2 a.2.2 k hk⟩,by omega⟩⟩ fun _=>by omega
 · rw [Af k7]
   refine D3 (fun hl=>?_) fun a=>by have:=(a.1.2.2 k7).1;omega
   have hl1:n.kids.length=1:=by omega
   unfold Bq
   generalize n.kids=ks at *
   match ks,hl1 with
   | [x],_ =>
   simp only [List.getElem?_cons_zero,Option.bind_some]
   have e1:GQ [x]=Du x:=by simp [GQ]
   refine Hb (ZC (hks x (by simp)) (c+1) (d+1) (by omega) hc1 (by omega) (by omega)) ⟨fun a=>⟨⟨hb,fun h=>absurd h k7,fun _=>⟨rfl,fun k hk=>by rw [List.mem_singleton.1 hk];exact a.1⟩⟩,by omega,MF.1 fun k hk=>by rw [List.mem_singleton.1 hk];exact a.2.2⟩,fun a=>⟨(a.1.2.2 k7).2 x (by simp),by omega,MF.2 a.2.2 x (by simp)⟩⟩ fun _=>by omega
def Bi (k:Int):List Nd→Nat
 | []=>0
 | a::l=>(if a.kind=k then 1 else 0)+Bi k l
theorem LK (k:Int) (l:List Nd):Bi k l≤l.length:=by
 induction l with
 | nil=>simp [Bi]
 | cons a l ih=>simp only [Bi,List.length_cons];split<;>omega
def kinds (l:List Nd):Prop:=∀ k∈l,6≤k.kind∧k.kind≤8
theorem Ot {y:Int}:∀ {l:List Nd} {i:Nat} {a b c:Int},0≤a→0≤b→0≤c→a+l.length≤9223372036854775807→b+l.length≤9223372036854775807→c+l.length≤9223372036854775807 →
   AT (fun i z x=>Cc y i z x.1 x.2.1 x.2.2) (fun x=>(x.1,x.2.1,x.2.2)) l i (a,b,c)=some (AN (kinds l) (.inl (a+Bi 6 l,b+Bi 7 l,c+Bi 8 l)) (.inr (false,y)))
 | [],i,a,b,c,_,_,_,_,_,_=>by rw [Ag (show kinds [] from fun k hk=>(by cases hk))];simp [AT,Bi]
 | z::l,i,a,b,c,h1,h2,h3,h4,h5,h6=>by
   simp only [List.length_cons] at h4 h5 h6
   rw [AT,Cc]
   simp only [Ej,Bk,Bv]
   have hk:kinds (z::l)↔(6≤z.kind∧z.kind≤8)∧kinds l:=by unfold kinds;simp
   have go:∀ {a' b' c':Int},0≤a'→0≤b'→0≤c'→a'≤a+1→b'≤b+1→c'≤c+1→6≤z.kind∧z.kind≤8→a'+Bi 6 l=a+Bi 6 (z::l)→b'+Bi 7 l=b+Bi 7 (z::l)→c'+Bi 8 l=c+Bi 8 (z::l) →
       (some (Lp.nx (a',b',c'))).bind (GB (AT (fun i z x=>Cc y i z x.1 x.2.1 x.2.2) (fun x=>(x.1,x.2.1,x.2.2)) l (i+1)))=some (AN (kinds (z::l)) (.inl (a+Bi 6 (z::l),b+Bi 7 (z::l),c+Bi 8 (z::l))) (.inr (false,y))):=by
     intro a' b' c' g1 g2 g3 g4 g5 g6 gk e1 e2 e3
     show AT _ _ l (i+1) (a',b',c')=_
     rw [Ot g1 g2 g3 (by omega) (by omega) (by omega),e1,e2,e3]
     by_cases hl:kinds l
     · rw [Ag hl,Ag (hk.2 ⟨gk,hl⟩)]
     · rw [Af hl,Af fun q=>hl (hk.1 q).2]
   by_cases k6:z.kind < 6
   · rw [Ag k6,Af fun q=>by have:=(hk.1 q).1;omega];rfl
   rw [Af k6]
   by_cases k8:8 < z.kind
   · rw [Ag k8,Af fun q=>by have:=(hk.1 q).1;omega];rfl
   rw [Af k8]
   by_cases e6:z.kind=6
   · rw [Ag e6,C4 (by omega)]
     exact go (by omega) h2 h3 (by omega) (by omega) (by omega) (by omega) (by simp [Bi,e6];omega) (by simp [Bi,e6]) (by simp [Bi,e6])
   rw [Af e6]
   by_cases e7:z.kind=7
   · rw [Ag e7,C4 (by omega)]
     exact go h1 (by omega) h3 (by omega) (by omega) (by omega) (by omega) (by simp [Bi,e7]) (by simp [Bi,e7];omega) (by simp [Bi,e7])
   rw [Af e7]
   have e8:z.kind=8:=by omega
   rw [Ag e8,C4 (by omega)]
   exact go h1 h2 (by omega) (by omega) (by omega) (by omega) (by omega) (by simp [Bi,e8]) (by simp [Bi,e8]) (by simp [Bi,e8];omega)
def cU (n:Nd):Prop:=EK n.n∧FD n.name∧C1 n ⟨0,n.name,ByteArray.empty,n.n,0,0,0,⟨0,[]⟩,[],0⟩∧∃ h cs,n.kids=h::cs∧kinds cs∧Bi 8 cs=1∧Bi 7 cs≤1∧IM h∧∀ k∈cs,Bq k
def F1 (n:Nd):Prop :=
 (n.kind=2∧FD n.name∧FH n.unit∧n.kids.length=0∧C1 n ⟨0,n.name,n.unit,0,0,0,0,⟨0,[]⟩,[],0⟩) ∨
 (n.kind=3∧FD n.name∧FH n.unit∧1≤n.n∧n.n≤4∧n.kids.length=0∧C1 n ⟨0,n.name,n.unit,n.n,0,0,0,⟨0,[]⟩,[],0⟩) ∨
 (n.kind=4∧cU n)
theorem vW {n:Nd} (h:n.kind=2):F1 n↔FD n.name∧FH n.unit∧n.kids.length=0∧C1 n ⟨0,n.name,n.unit,0,0,0,0,⟨0,[]⟩,[],0⟩:=by unfold F1;simp [h]
theorem uS {n:Nd} (h:n.kind=3):F1 n↔FD n.name∧FH n.unit∧1≤n.n∧n.n≤4∧n.kids.length=0∧C1 n ⟨0,n.name,n.unit,n.n,0,0,0,⟨0,[]⟩,[],0⟩:=by unfold F1;simp [h]
theorem tT {n:Nd} (h:n.kind=4):F1 n↔cU n:=by unfold F1;simp [h]
theorem Rb {n:Nd} (h:F1 n):n.kind=2∨n.kind=3∨n.kind=4:=by
 unfold F1 at h
 rcases h with h | h | h
 all_goals
   have:=h.1
   simp [this]
theorem kC {n:Nd} (hok:C8 n) {c d:Int} (h0:0≤c) (h1:c≤2000) (h2:0≤d):Out (Cj ⟨c⟩ n d) (F1 n∧c+Du n≤2000∧d+JM n≤41) (c+Du n):=by
 obtain ⟨hps,hkl,hks⟩:=EL hok
 have hsz:=Cu n
 have hdp:=I3 n
 have hd:=@Pv n.kids
 rw [Cj]
 refine G7 (OK n h0 h1) (fun hp=>?_) fun z hp=>Fz fun a=>hp ⟨by omega,by omega⟩
 dsimp only
 rw [cond_true,C4 (a:=d) (b:=1) (by omega)]
 have e0:(((n.kids.length:Nat):Int)=0)=(n.kids.length=0):=propext (by omega)
 simp only [Bk,Fy,Ej,Bv,Vy,Vi,L3,Pn _ _ hps,Option.bind_some,e0]
 have hc1:=hp.1
 have hd1:=hp.2
 have hleaf:∀ {B:Prop},(B↔F1 n)→(B→n.kids.length=0)→Out (some (mb B,c+1)) (F1 n∧c+Du n≤2000∧d+JM n≤41) (c+Du n):=fun hB hk=>(Mg hB).congr ⟨fun a=>⟨a,by have:=UZ (hk (hB.2 a));omega⟩,fun a=>a.1⟩ fun a=>by have:=UZ (hk (hB.2 a.1));omega
 by_cases k2:n.kind=2
 · rw [Ag k2]
   simp only [RM,TW,V8]
   refine hleaf ?_ ?_
   · rw [vW k2]
   · intro h;exact h.2.2.1
 rw [Af k2]
 by_cases k3:n.kind=3
 · rw [Ag k3]
   simp only [RM,TW,V8]
   refine hleaf ?_ ?_
   · rw [uS k3]
   · intro h;exact h.2.2.2.2.1
 rw [Af k3]
 by_cases k4:n.kind=4
 rotate_left
 · rw [Af k4];exact Fz fun a=>by have:=Rb a.1;omega
 rw [Ag k4,tT k4]
 refine D3 (fun hr=>D3 (fun hn=>D3 (fun hb=>?_) fun a=>a.1.2.2.1) fun a=>a.1.2.1) fun a=>a.1.1
 refine Se (fun hl0=>?_) fun a h=>by obtain ⟨h',cs,hk,_⟩:=a.1.2.2.2;rw [hk] at h;simp at h
 have MF:(∀ k∈n.kids,d+1+JM k≤41)↔d+JM n≤41:=by
   constructor
   · intro h
     have:=(hd (m:=(40 - d).toNat)).2 fun k hk=>by have:=h k hk;omega
     omega
   · intro h k hk
     have:=(hd (m:=UR n.kids)).1 (Nat.le_refl _) k hk
     omega
 unfold cU
 generalize n.kids=ks at *
 match ks,hl0 with
 | x::l,_ =>
 have hsub:Jz (x::l) 1 (((x::l).length:Nat):Int)=some l:=by
   unfold Jz
   rw [if_pos (by simp only [List.length_cons];omega)]
   simp
 rw [hsub]
 simp only [Option.bind_some,List.length_cons] at hkl ⊢
 have e2:∀ {A:Prop},(∃ h cs,x::l=h::cs∧kinds cs∧Bi 8 cs=1∧Bi 7 cs≤1∧IM h∧∀ k∈cs,Bq k)↔(kinds l∧Bi 8 l=1∧Bi 7 l≤1∧IM x∧∀ k∈l,Bq k):=by
   intro _
   constructor
   · rintro ⟨h,cs,e,r⟩;cases e;exact r
   · intro r;exact ⟨x,l,rfl,r⟩
 rw [E3 (by omega),List.drop_zero,Ot (by omega) (by omega) (by omega) (by omega) (by omega) (by omega)]
 simp only [Option.bind_some]
 by_cases hK:kinds l
 rotate_left
 · rw [Af hK]
   show Out (some (false,c+1)) _ _
   exact Fz fun a=>hK ((e2 (A:=True)).1 a.1.2.2.2).1
 rw [Ag hK]
 show Out (AN ((0:Int)+Bi 8 l=1) (AN (1 < (0:Int)+Bi 7 l) (some (false,c+1)) _) (some (false,c+1))) _ _
 refine D3 (fun h8=>Se (fun h7=>?_) fun a=>?_) fun a=>?_
 rotate_left
 · have:=((e2 (A:=True)).1 a.1.2.2.2).2.2.1;omega
 · have:=((e2 (A:=True)).1 a.1.2.2.2).2.1;omega
 simp only [List.getElem?_cons_zero,Option.bind_some]
 have hdx:=fun h=>MF.2 h x (by simp)
 have hsl:GQ (x::l)=Du x+GQ l:=by simp [GQ]
 refine G7 (nN (hks x (by simp)) (c:=c+1) (d:=d+1) (by omega) hc1) (fun hx=>?_) fun z hx=>Fz fun a=>hx ⟨((e2 (A:=True)).1 a.1.2.2.2).2.2.2.1,by omega,hdx a.2.2⟩
 dsimp only
 rw [cond_true,CE,E3 (by omega),List.drop_zero]
 dsimp only
 refine Hb (Ko (g:=BV) (p:=Bq) (d:=d+1) (by omega) hx.2.1 fun k hk c' b0 b1=>XI (hks k (by simp [hk])) b0 b1 (by omega)) ?_ fun _=>by omega
 constructor
 · rintro ⟨a,b⟩
   refine ⟨⟨hr,hn,hb,(e2 (A:=True)).2 ⟨hK,by omega,by omega,hx.1,fun k hk=>(a k hk).1⟩⟩,by omega,MF.1 fun k hk=>?_⟩
   rcases List.mem_cons.1 hk with rfl | hk
   · exact hx.2.2
   · exact (a k hk).2
 · rintro ⟨a,b,e⟩
   exact ⟨fun k hk=>⟨((e2 (A:=True)).1 a.2.2.2).2.2.2.2 k hk,MF.2 e k (by simp [hk])⟩,by omega⟩
def LD (n:Nd):Prop:=((n.kind=1∧C1 n z0∧∀ k∈n.kids,F1 k)∨(n.kind≠1∧JW n))∧Du n≤2000∧JM n≤40
theorem Q5 {n:Nd} (hok:C8 n):DA n=some (mb (LD n)):=by
 obtain ⟨hps,hkl,hks⟩:=EL hok
 have hsz:=Cu n
 have hdp:=I3 n
 have hd:=@Pv n.kids
 rw [DA,Bk,Bv]
 have fin:∀ {r:Option (Bool×Int)} {P:Prop} {t:Int},Out r P t→(P↔LD n)→(r.bind fun (a,_)=>some a)=some (mb (LD n)):=by
   rintro r P t ⟨z,rfl,_⟩ h
   rw [FM h];rfl
 by_cases k1:n.kind=1
 rotate_left
 · rw [Af k1]
   refine fin (ZC hok 0 1 (by omega) (by omega) (by omega) (by omega)) ?_
   unfold LD
   constructor
   · rintro ⟨a,b,c⟩;exact ⟨.inr ⟨k1,a⟩,by omega,by omega⟩
   · rintro ⟨a | a,b,c⟩
     · exact absurd a.1 k1
     · exact ⟨a.2,by omega,by omega⟩
 rw [Ag k1]
 obtain ⟨z,hz,hz2⟩:=OK n (c:=0) (d:=1) (by omega) (by omega)
 rw [hz]
 simp only [Option.bind_some,Pn _ _ hps,Bv]
 by_cases h1:(0:Int)+1≤2000∧(1:Int)≤40
 rotate_left
 · exact absurd ⟨by omega,by omega⟩ h1
 rw [Ag h1,hz2 h1]
 by_cases hb:C1 n z0
 rotate_left
 · rw [Af hb]
   refine G5 ?_
   rintro ⟨a | a,_⟩
   · exact hb a.2.1
   · exact a.1 k1
 rw [Ag hb,CV,E3 hkl,List.drop_zero]
 dsimp only
 refine fin (Ko (g:=Cj) (p:=F1) (d:=2) (by omega) (by omega) fun k hk c' b0 b1=>kC (hks k hk) b0 b1 (by omega)) ?_
 unfold LD
 constructor
 · rintro ⟨a,b⟩
   refine ⟨.inl ⟨k1,hb,fun k hk=>(a k hk).1⟩,by omega,?_⟩
   have:=(hd (m:=39)).2 fun k hk=>by have:=(a k hk).2;omega
   omega
 · rintro ⟨a | a,b,e⟩
   · refine ⟨fun k hk=>⟨a.2.2 k hk,?_⟩,by omega⟩
     have:=(hd (m:=UR n.kids)).1 (Nat.le_refl _) k hk
     omega
   · exact absurd k1 a.1
end Mo
end Go.Proofs.YtkfplcngmiljaaaGreatDoor
namespace Go.Proofs.YtkfplcngmiljaaaGreatDoor
open AI Go
namespace Mo
set_option maxRecDepth 100000
set_option maxHeartbeats 4000000
theorem Ou {β:Type} {p:Prop} {x y:β}:some (AN p x y)=AN p (some x) (some y):=by
 by_cases h:p
 · rw [Ag h,Ag h]
 · rw [Af h,Af h]
abbrev eS:ByteArray:=ByteArray.empty
def N4 (s:ByteArray):Prop:=s≠eS∧s≠A3∧s≠By∧s≠Cm
theorem QZ (s:ByteArray):DW s=some (mb (N4 s)):=by
 rw [DW]
 simp only [Cw,Bv,sJ,cS]
 rfl
theorem Zo {us:List ByteArray} {a:ByteArray} (ha:us[0]?=some a) (hl:us.length≤9223372036854775807):BL us.length us=some (mb (∀ u∈us,u=a)):=by
 rw [BL,Xw]
 have h0:0 < us.length:=(List.getElem?_eq_some_iff.1 ha).1
 refine lT (fun i _=>∀ j u,j < i→us[j]?=some u→u=a) hl (fun j u hj=>by omega) (fun i x hi hI=>?_) (fun x hI=>?_)
 · have hx:us[i]?=some us[i]:=List.getElem?_eq_getElem hi
   rw [FR,hx]
   have hk:Lm us.length ((0:Nat):Int)=some 0:=by unfold Lm;rw [if_pos (by omega)];rfl
   rw [hk]
   simp only [Option.bind_some,ha,Cw,Bv]
   by_cases h:us[i]=a
   · rw [Ag h]
     refine ⟨_,rfl,fun j u hj hu=>?_⟩
     rcases Nat.lt_or_ge j i with hlt | hge
     · exact hI j u hlt hu
     · obtain rfl:j=i:=by omega
       rw [hx] at hu;cases hu;exact h
   · rw [Af h]
     refine ⟨_,rfl,?_⟩
     exact ⟨_,rfl,(Tv fun q=>h (q _ (List.getElem_mem hi))).symm⟩
 · refine ⟨_,rfl,(Bj.2 fun u hu=>?_).symm⟩
   obtain ⟨j,hj⟩:=List.getElem?_of_mem hu
   exact hI j u (List.getElem?_eq_some_iff.1 hj).1 hj
noncomputable def Vv (op a b:ByteArray) (E:Prop):ByteArray :=
 AN (op=Sy) (AN (a=A3) (AN E A3 eS) eS) (AN (op=IH) (AN (a=A3) (AN E A3 eS) eS) (AN (op=Ir) (AN E A3 eS) (AN (op=IB) (AN E A3 eS)
   (AN (op=On) (AN E (AN (a=A3) eS A3) eS) (AN (op=Iz) (AN E (AN (a=A3) eS A3) eS) (AN (op=KV) (AN E (AN (a=A3) eS a) eS) (AN (op=IY) (AN E (AN (a=A3) eS a) eS)
     (AN (op=Oi) (AN (a=By) (AN (b=A3) eS b) (AN (b=By) (AN (a=A3) eS a) eS)) (AN (op=Jo) (AN (a=A3) eS a) (AN (op=R7) (AN (a=Cm) (AN (N4 b) b eS) eS) eS))))))))))
theorem lI {op a b:ByteArray} {us:List ByteArray} (ha:us[0]?=some a) (hb:us[us.length - 1]?=some b) (hl:us.length≤9223372036854775807):Ce op us.length us=some (Vv op a b (∀ u∈us,u=a)):=by
 have h0:0 < us.length:=(List.getElem?_eq_some_iff.1 ha).1
 have hk:Lm us.length ((0:Nat):Int)=some 0:=by unfold Lm;rw [if_pos (by omega)];rfl
 have hk2:Lm us.length (Rh ((us.length:Nat):Int) 1)=some (us.length - 1):=by
   rw [Mk (by omega)]
   unfold Lm
   rw [if_pos (by omega)]
   congr 1
   omega
 rw [Ce,hk,hk2]
 simp only [Option.bind_some,ha,hb,Zo ha hl,QZ,Cw,Bv]
 unfold Vv
 simp only [Ou]
noncomputable def IQ (op:ByteArray) (us:List ByteArray):ByteArray:=Vv op (us.headD eS) (us.getLastD eS) (∀ u∈us,u=us.headD eS)
theorem dK {op:ByteArray} {us:List ByteArray} (h0:us≠[]) (hl:us.length≤9223372036854775807):Ce op us.length us=some (IQ op us):=by
 cases us with
 | nil=>exact absurd rfl h0
 | cons a l =>
   refine lI (a:=a) (b:=(a::l).getLastD eS) rfl ?_ hl
   rw [List.getLastD_cons,← List.getLast?_eq_getElem?,List.getLast?_cons,List.getLastD_eq_getLast?]
def Ml (e at_:Int) (ds:List Dg):List Dg:=if ds.length < 20 then ds++[⟨e,at_⟩] else ds
theorem SW (e at_:Int) (ds:List Dg):An e at_ ds=some ((),Ml e at_ ds):=by
 rw [An,Ej,Bv]
 unfold Ml
 by_cases h:ds.length < 20
 · rw [Ag (by omega),if_pos h,UU (by omega)]
 · rw [Af (by omega),if_neg h]
noncomputable def Ei (s:Sc) (n:Nd) (us:List ByteArray):ByteArray :=
 AN (n.kind=11) n.unit (AN (n.kind=12) ((s.facts.get n.name).getD eS) (AN (n.kind=13) ((s.lines.get ((s.Ah.get n.n).getD eS)).getD eS) (AN (n.kind=14) By
   (AN (n.kind=15) (IQ IH us) (AN (n.kind=16) (IQ n.name us) (AN (n.kind=17) (IQ KV us) (AN (n.kind=18) (AN (N4 (us.headD eS)) (us.headD eS) eS) eS)))))))
noncomputable def L0 (n:Nd):Int:=AN (n.kind=12) 91 (AN (n.kind=13) 91 11)
noncomputable def aP (s:Sc) (n:Nd) (r:List ByteArray×List Dg):ByteArray×List Dg :=
 AN (∀ u∈r.1,u≠eS) (AN (Ei s n r.1=eS) (Ei s n r.1,Ml (L0 n) n.att r.2) (Ei s n r.1,r.2)) (eS,r.2)
mutual
noncomputable def CU (s:Sc):Nd→List Dg→ByteArray×List Dg
 | ⟨kind,name,unit,n,fr,to,known,tab,kids,att⟩,ds=>aP s ⟨kind,name,unit,n,fr,to,known,tab,kids,att⟩ (Dh s kids ds)
noncomputable def Dh (s:Sc):List Nd→List Dg→List ByteArray×List Dg
 | [],ds=>([],ds)
 | k::ks,ds=>((CU s k ds).1::(Dh s ks (CU s k ds).2).1,(Dh s ks (CU s k ds).2).2)
end
theorem QE (s:Sc) (n:Nd) (ds:List Dg):CU s n ds=aP s n (Dh s n.kids ds):=by cases n;rw [CU]
theorem NC (s:Sc):∀ (l:List Nd) (ds:List Dg),(Dh s l ds).1.length=l.length
 | [],_=>by rw [Dh];rfl
 | k::l,ds=>by rw [Dh];simp [NC s l]
theorem Qq {s:Sc} {g:Sc→Nd→List Dg→Option (ByteArray×List Dg)}:∀ {l:List Nd} {done:List ByteArray} {w:Prop} {ds:List Dg},(∀ k∈l,∀ ds,g s k ds=some (CU s k ds)) →
   AT (fun i y x=>Ca g s i y x.1 x.2.1 x.2.2) (fun x=>(x.1,x.2.1,x.2.2)) l done.length (mb w,done++List.replicate l.length eS,ds)=some (.inl (mb (w∧∀ u∈(Dh s l ds).1,u≠eS),done++(Dh s l ds).1,(Dh s l ds).2))
 | [],done,w,ds,_=>by
   rw [AT,Dh]
   simp
 | k::l,done,w,ds,h=>by
   rw [AT,Ca,h k (by simp)]
   have hlt:done.length < (done++List.replicate (k::l).length eS).length:=by simp
   have hx:(done++List.replicate (k::l).length eS)[done.length]?=some eS:=by
     rw [List.getElem?_append_right (Nat.le_refl _)];simp
   have hset:(done++List.replicate (k::l).length eS).set done.length (CU s k ds).1=(done++[(CU s k ds).1])++List.replicate l.length eS:=by
     rw [List.set_append_right _ _ (Nat.le_refl _)]
     simp [List.replicate_succ]
   have hg:((done++[(CU s k ds).1])++List.replicate l.length eS)[done.length]?=some (CU s k ds).1:=by
     rw [List.append_assoc,List.getElem?_append_right (Nat.le_refl _)];simp
   have ih:=fun w'=>Qq (s:=s) (g:=g) (l:=l) (done:=done++[(CU s k ds).1]) (w:=w') (ds:=(CU s k ds).2) fun k' hk'=>h k' (by simp [hk'])
   simp only [List.length_append,List.length_cons,List.length_nil,Nat.zero_add] at ih
   simp only [Option.bind_some,hx,hset,hg,Cw,Bv]
   rw [Dh]
   have fin:∀ w',(w'↔w∧(CU s k ds).1≠eS)→(GB (AT (fun i y x=>Ca g s i y x.1 x.2.1 x.2.2) (fun x=>(x.1,x.2.1,x.2.2)) l (done.length+1)) (.nx (mb w',done++[(CU s k ds).1]++List.replicate l.length eS,(CU s k ds).2)))=some (.inl (mb (w∧∀ u∈(CU s k ds).1::(Dh s l (CU s k ds).2).1,u≠eS),done++((CU s k ds).1::(Dh s l (CU s k ds).2).1),(Dh s l (CU s k ds).2).2)):=by
     intro w' hw
     show AT _ _ l (done.length+1) _=_
     rw [ih w']
     congr 2
     refine Prod.ext (FM ?_) (Prod.ext (by simp) rfl)
     simp only [List.mem_cons,forall_eq_or_imp,hw]
     exact and_assoc
   by_cases hw:w
   · rw [Ag hw]
     by_cases hu:(CU s k ds).1=eS
     · rw [Ag hu,wP]
       exact fin False ⟨fun q=>q.elim,fun q=>q.2 hu⟩
     · rw [Af hu,gY]
       exact fin True ⟨fun _=>⟨hw,hu⟩,fun _=>trivial⟩
   · rw [Af hw,wP]
     exact fin False ⟨fun q=>q.elim,fun q=>hw q.1⟩
section
variable {s:Sc} {n:Nd} {us:List ByteArray}
theorem u11 (h:n.kind=11):Ei s n us=n.unit:=by unfold Ei;rw [Ag h]
theorem u12 (h:n.kind=12):Ei s n us=(s.facts.get n.name).getD eS:=by unfold Ei;rw [Af (by omega),Ag h]
theorem u13 (h:n.kind=13):Ei s n us=(s.lines.get ((s.Ah.get n.n).getD eS)).getD eS:=by unfold Ei;rw [Af (by omega),Af (by omega),Ag h]
theorem u14 (h:n.kind=14):Ei s n us=By:=by unfold Ei;rw [Af (by omega),Af (by omega),Af (by omega),Ag h]
theorem u15 (h:n.kind=15):Ei s n us=IQ IH us:=by unfold Ei;rw [Af (by omega),Af (by omega),Af (by omega),Af (by omega),Ag h]
theorem u16 (h:n.kind=16):Ei s n us=IQ n.name us:=by unfold Ei;rw [Af (by omega),Af (by omega),Af (by omega),Af (by omega),Af (by omega),Ag h]
theorem u17 (h:n.kind=17):Ei s n us=IQ KV us:=by unfold Ei;rw [Af (by omega),Af (by omega),Af (by omega),Af (by omega),Af (by omega),Af (by omega),Ag h]
theorem zP (h:n.kind=18):Ei s n us=AN (N4 (us.headD eS)) (us.headD eS) eS:=by unfold Ei;rw [Af (by omega),Af (by omega),Af (by omega),Af (by omega),Af (by omega),Af (by omega),Af (by omega),Ag h]
theorem sT (h:n.kind=12∨n.kind=13):L0 n=91:=by
 unfold L0
 by_cases e:n.kind=12
 · rw [Ag e]
 · rw [Af e,Ag (h.resolve_left e)]
theorem WA (h1:n.kind≠12) (h2:n.kind≠13):L0 n=11:=by unfold L0;rw [Af h1,Af h2]
end
theorem p6 {n:Nd} (h:LC n) (hk:n.kind=15∨n.kind=16∨n.kind=17∨n.kind=18):0 < n.kids.length:=by
 rcases hk with e | e | e | e
 · have:=((Zc e).1 h).1;omega
 · have:=((Yb e).1 h).2.1;omega
 · have:=((ZL e).1 h).2.2;omega
 · have:=((Yy e).1 h).2.2;omega
theorem dY:∀ (q:Nat) (s:Sc) (n:Nd) (ds:List Dg),JW n→Du n≤q→Du n≤2000→Bf q s n ds=some (CU s n ds):=by
 intro q
 induction q with
 | zero=>intro s n ds _ h;have:=Cu n;omega
 | succ q ih =>
 intro s n ds he hq h2
 obtain ⟨hQ,hks⟩:=(KO n).1 he
 have hsz:=Cu n
 have hkl:=N7 n.kids
 rw [Bf,DH,QE]
 have hl:=NC s n.kids ds
 have hf:=Qq (s:=s) (g:=Bf q) (l:=n.kids) (done:=[]) (w:=True) (ds:=ds) fun k hk ds'=>ih s k ds' (hks k hk) (by have:=Fo hk;omega) (by have:=Fo hk;omega)
 simp only [List.nil_append,List.length_nil,true_and,← gY] at hf
 unfold Z4
 rw [if_pos (by omega),E3 (by omega),List.drop_zero,hf]
 show cond (mb (∀ u∈(Dh s n.kids ds).1,u≠eS)) _ _=_
 unfold aP
 generalize hr:Dh s n.kids ds=r at *
 obtain ⟨us,ds2⟩:=r
 dsimp only at hl ⊢
 rw [← hl]
 simp only [Bv,Bk,Cw,SW,QZ]
 rw [Ou]
 congr 1
 rw [Ou]
 have hne:=fun hk=>p6 hQ hk
 have hul:us.length≤9223372036854775807:=by omega
 have hop:∀ op,0 < n.kids.length→Ce op us.length us=some (IQ op us):=fun op h=>dK (fun e=>by rw [e] at hl;simp at hl;omega) hul
 rcases NW hQ with k | k | k | k | k | k | k | k
 · rw [Ag k,u11 k,WA (by omega) (by omega)];rfl
 · rw [Af (by omega),Ag k,u12 k,sT (.inl k)];rfl
 · rw [Af (by omega),Af (by omega),Ag k,u13 k,sT (.inr k)];rfl
 · rw [Af (by omega),Af (by omega),Af (by omega),Ag k,u14 k,WA (by omega) (by omega)];rfl
 · rw [Af (by omega),Af (by omega),Af (by omega),Af (by omega),Ag k,u15 k,WA (by omega) (by omega),hop IH (hne (by omega))];rfl
 · rw [Af (by omega),Af (by omega),Af (by omega),Af (by omega),Af (by omega),Ag k,u16 k,WA (by omega) (by omega),hop n.name (hne (by omega))];rfl
 · rw [Af (by omega),Af (by omega),Af (by omega),Af (by omega),Af (by omega),Af (by omega),Ag k,u17 k,WA (by omega) (by omega),hop KV (hne (by omega))];rfl
 · rw [Af (by omega),Af (by omega),Af (by omega),Af (by omega),Af (by omega),Af (by omega),Af (by omega),Ag k,zP k,WA (by omega) (by omega)]
   have h0:=hne (by omega)
   cases us with
   | nil=>simp at hl;omega
   | cons a l =>
   have hk0:Lm (a::l).length ((0:Nat):Int)=some 0:=by unfold Lm;rw [if_pos (by simp only [List.length_cons];omega)];rfl
   rw [hk0]
   simp only [Option.bind_some,List.getElem?_cons_zero,List.headD_cons,Bv]
   by_cases hc:N4 a
   · rw [Ag hc,Ag hc]
   · rw [Af hc,Af hc,Ag trivial,Ag rfl]
theorem UE {s:Sc} {n:Nd} {ds:List Dg} (he:JW n) (h:Du n≤2000):CX s n ds=some (CU s n ds) :=
 MI (Du n) fun q hq=>dY q s n ds he hq h
end Mo
end Go.Proofs.YtkfplcngmiljaaaGreatDoor
namespace Go.Proofs.YtkfplcngmiljaaaGreatDoor
open AI Go
namespace Mo
set_option maxRecDepth 100000
set_option maxHeartbeats 4000000
noncomputable def fU (k:Int):List Nd→ByteArray→Option ByteArray
 | [],_=>none
 | a::l,x=>AN (a.kind=k∧a.name=x) (some a.unit) (fU k l x)
noncomputable def fA:List Nd→Int→Option ByteArray
 | [],_=>none
 | a::l,z=>AN (a.kind=4∧a.n=z) (some a.name) (fA l z)
abbrev aT:Type:=Mm ByteArray ByteArray×Mm ByteArray ByteArray×Mm Int ByteArray
noncomputable def Jv (a:Nd) (x:aT):aT :=
 AN (a.kind=2) (AN ((x.1.get a.name).isSome=true) x (x.1.set a.name a.unit,x.2.1,x.2.2))
   (AN (a.kind=3) (AN ((x.2.1.get a.name).isSome=true) x (x.1,x.2.1.set a.name a.unit,x.2.2))
     (AN (a.kind=4) (AN ((x.2.2.get a.n).isSome=true) x (x.1,x.2.1,x.2.2.set a.n a.name)) x))
noncomputable def Rq:List Nd→aT→aT
 | [],x=>x
 | a::l,x=>Rq l (Jv a x)
noncomputable def P1 (n:Nd):Sc:=⟨(Rq n.kids (Mm.nil,Mm.nil,Mm.nil)).1,(Rq n.kids (Mm.nil,Mm.nil,Mm.nil)).2.1,(Rq n.kids (Mm.nil,Mm.nil,Mm.nil)).2.2⟩
theorem Sw:∀ (l:List Nd) (i:Nat) (x:aT),AT (fun i y x=>Db i y x.1 x.2.1 x.2.2) (fun x=>(x.1,x.2.1,x.2.2)) l i x=(some (.inl (Rq l x)):Option (aT⊕Sc))
 | [],_,_=>rfl
 | a::l,i,x=>by
   rw [AT,Db,Rq]
   have e:∀ x',(some (Lp.nx x'):Option (Lp aT aT Sc)).bind (GB (AT (fun i y x=>Db i y x.1 x.2.1 x.2.2) (fun x=>(x.1,x.2.1,x.2.2)) l (i+1)))=some (.inl (Rq l x')):=fun x'=>Sw l (i+1) x'
   simp only [Bk,Bv,sB,FT]
   unfold Jv
   by_cases k2:a.kind=2
   · rw [Ag k2,Ag k2]
     by_cases h:(x.1.get a.name).isSome=true
     · rw [Ag h,Ag h];exact e _
     · rw [Af h,Af h];exact e _
   rw [Af k2,Af k2]
   by_cases k3:a.kind=3
   · rw [Ag k3,Ag k3]
     by_cases h:(x.2.1.get a.name).isSome=true
     · rw [Ag h,Ag h];exact e _
     · rw [Af h,Af h];exact e _
   rw [Af k3,Af k3]
   by_cases k4:a.kind=4
   · rw [Ag k4,Ag k4]
     by_cases h:(x.2.2.get a.n).isSome=true
     · rw [Ag h,Ag h];exact e _
     · rw [Af h,Af h];exact e _
   rw [Af k4,Af k4]
   exact e _
theorem Vk {n:Nd} (hok:C8 n):Dv n=some (P1 n):=by
 obtain ⟨hps,hkl,hks⟩:=EL hok
 rw [Dv,E3 hkl,List.drop_zero,Sw]
 rfl
theorem Od:∀ (l:List Nd) (x:aT),(∀ y,(Rq l x).1.get y=(x.1.get y).or (fU 2 l y))∧(∀ y,(Rq l x).2.1.get y=(x.2.1.get y).or (fU 3 l y))∧∀ z,(Rq l x).2.2.get z=(x.2.2.get z).or (fA l z)
 | [],x=>⟨fun y=>by simp [Rq,fU],fun y=>by simp [Rq,fU],fun z=>by simp [Rq,fA]⟩
 | a::l,x=>by
   obtain ⟨h1,h2,h3⟩:=Od l (Jv a x)
   have s1:∀ y,(Jv a x).1.get y=(x.1.get y).or (AN (a.kind=2∧a.name=y) (some a.unit) none):=by
     intro y
     unfold Jv
     by_cases k2:a.kind=2
     · rw [Ag k2]
       by_cases h:(x.1.get a.name).isSome=true
       · rw [Ag h]
         by_cases e:a.name=y
         · subst e
           obtain ⟨v,hv⟩:=Option.isSome_iff_exists.1 h
           rw [hv];rfl
         · rw [Af (show ¬ (a.kind=2∧a.name=y) from fun q=>e q.2)];simp
       · rw [Af h]
         show (x.1.set a.name a.unit).get y=_
         rw [Mm.Fp]
         by_cases e:y=a.name
         · subst e
           rw [if_pos rfl,Ag ⟨k2,rfl⟩]
           have:x.1.get a.name=none:=by simpa using h
           rw [this];rfl
         · rw [if_neg e,Af (show ¬ (a.kind=2∧a.name=y) from fun q=>e q.2.symm)];simp
     · rw [Af k2,Af (show ¬ (a.kind=2∧a.name=y) from fun q=>k2 q.1)]
       by_cases k3:a.kind=3
       · rw [Ag k3]
         by_cases h:(x.2.1.get a.name).isSome=true
         · rw [Ag h];simp
         · rw [Af h];simp
       · rw [Af k3]
         by_cases k4:a.kind=4
         · rw [Ag k4]
           by_cases h:(x.2.2.get a.n).isSome=true
           · rw [Ag h];simp
           · rw [Af h];simp
         · rw [Af k4];simp
   have s2:∀ y,(Jv a x).2.1.get y=(x.2.1.get y).or (AN (a.kind=3∧a.name=y) (some a.unit) none):=by
     intro y
     unfold Jv
     by_cases k2:a.kind=2
     · rw [Ag k2,Af (show ¬ (a.kind=3∧a.name=y) from fun q=>by omega)]
       by_cases h:(x.1.get a.name).isSome=true
       · rw [Ag h];simp
       · rw [Af h];simp
     · rw [Af k2]
       by_cases k3:a.kind=3
       · rw [Ag k3]
         by_cases h:(x.2.1.get a.name).isSome=true
         · rw [Ag h]
           by_cases e:a.name=y
           · subst e
             obtain ⟨v,hv⟩:=Option.isSome_iff_exists.1 h
             rw [hv];rfl
           · rw [Af (show ¬ (a.kind=3∧a.name=y) from fun q=>e q.2)];simp
         · rw [Af h]
           show (x.2.1.set a.name a.unit).get y=_
           rw [Mm.Fp]
           by_cases e:y=a.name
           · subst e
             rw [if_pos rfl,Ag ⟨k3,rfl⟩]
             have:x.2.1.get a.name=none:=by simpa using h
             rw [this];rfl
           · rw [if_neg e,Af (show ¬ (a.kind=3∧a.name=y) from fun q=>e q.2.symm)];simp
       · rw [Af k3,Af (show ¬ (a.kind=3∧a.name=y) from fun q=>k3 q.1)]
         by_cases k4:a.kind=4
         · rw [Ag k4]
           by_cases h:(x.2.2.get a.n).isSome=true
           · rw [Ag h];simp
           · rw [Af h];simp
         · rw [Af k4];simp
   have s3:∀ z,(Jv a x).2.2.get z=(x.2.2.get z).or (AN (a.kind=4∧a.n=z) (some a.name) none):=by
     intro z
     unfold Jv
     by_cases k2:a.kind=2
     · rw [Ag k2,Af (show ¬ (a.kind=4∧a.n=z) from fun q=>by omega)]
       by_cases h:(x.1.get a.name).isSome=true
       · rw [Ag h];simp
       · rw [Af h];simp
     · rw [Af k2]
       by_cases k3:a.kind=3
       · rw [Ag k3,Af (show ¬ (a.kind=4∧a.n=z) from fun q=>by omega)]
         by_cases h:(x.2.1.get a.name).isSome=true
         · rw [Ag h];simp
         · rw [Af h];simp
       · rw [Af k3]
         by_cases k4:a.kind=4
         · rw [Ag k4]
           by_cases h:(x.2.2.get a.n).isSome=true
           · rw [Ag h]
             by_cases e:a.n=z
             · subst e
               obtain ⟨v,hv⟩:=Option.isSome_iff_exists.1 h
               rw [hv];rfl
             · rw [Af (show ¬ (a.kind=4∧a.n=z) from fun q=>e q.2)];simp
           · rw [Af h]
             show (x.2.2.set a.n a.name).get z=_
             rw [Mm.Fp]
             by_cases e:z=a.n
             · subst e
               rw [if_pos rfl,Ag ⟨k4,rfl⟩]
               have:x.2.2.get a.n=none:=by simpa using h
               rw [this];rfl
             · rw [if_neg e,Af (show ¬ (a.kind=4∧a.n=z) from fun q=>e q.2.symm)];simp
         · rw [Af k4,Af (show ¬ (a.kind=4∧a.n=z) from fun q=>k4 q.1)];simp
   have or_if:∀ {p:Prop} {u:ByteArray} {o f:Option ByteArray},(o.or (AN p (some u) none)).or f=o.or (AN p (some u) f):=by
     intro p u o f
     by_cases h:p
     · rw [Ag h,Ag h];cases o<;>rfl
     · rw [Af h,Af h];cases o<;>rfl
   refine ⟨fun y=>?_,fun y=>?_,fun z=>?_⟩
   · rw [Rq,h1,s1,fU,or_if]
   · rw [Rq,h2,s2,fU,or_if]
   · rw [Rq,h3,s3,fA,or_if]
theorem Y6 (n:Nd) (x:ByteArray):(P1 n).facts.get x=fU 2 n.kids x:=by
 have:=(Od n.kids (Mm.nil,Mm.nil,Mm.nil)).1 x
 exact this.trans (by rw [Mm.get_nil];rfl)
theorem PD (n:Nd) (x:ByteArray):(P1 n).lines.get x=fU 3 n.kids x:=by
 have:=(Od n.kids (Mm.nil,Mm.nil,Mm.nil)).2.1 x
 exact this.trans (by rw [Mm.get_nil];rfl)
theorem Ri (n:Nd) (z:Int):(P1 n).Ah.get z=fA n.kids z:=by
 have:=(Od n.kids (Mm.nil,Mm.nil,Mm.nil)).2.2 z
 exact this.trans (by rw [Mm.get_nil];rfl)
noncomputable def Ix (src e:Nd):ByteArray×List Dg:=AN ((src.kind=1∧e.kind≠1)∧LD src∧LD e) (CU (P1 src) e []) (eS,[⟨1,e.att⟩])
theorem mS {e:Nd} (h:LD e) (hk:e.kind≠1):JW e∧Du e≤2000∧JM e≤40:=by
 obtain ⟨a | a,b⟩:=h
 · exact absurd a.1 hk
 · exact ⟨a.2,b⟩
theorem Vo {src e:Nd} (hs:C8 src) (he:C8 e):ED src e=some (Ix src e):=by
 rw [ED,Q5 hs,Q5 he,Vk hs]
 simp only [Option.bind_some,Bk,Bv]
 unfold Ix
 by_cases k1:src.kind=1
 rotate_left
 · rw [Af k1,Af fun q=>k1 q.1.1]
 rw [Ag k1]
 by_cases k2:e.kind=1
 · rw [Ag k2,Af fun q=>q.1.2 k2]
 rw [Af k2]
 by_cases v1:LD src
 rotate_left
 · rw [Af v1,Af fun q=>v1 q.2.1]
 rw [Ag v1]
 by_cases v2:LD e
 rotate_left
 · rw [Af v2,Af fun q=>v2 q.2.2]
 rw [Ag v2,Ag ⟨⟨k1,k2⟩,v1,v2⟩]
 obtain ⟨a,b,_⟩:=mS v2 k2
 rw [show Dd=some () from rfl]
 simp only [Option.bind_some]
 rw [UE a b]
 rfl
theorem Sv:∀ q:Nat,∀ n l,Le (Bt q n l) (Bt (q+1) n l)
 | 0=>fun _ _ _ h=>nomatch h
 | q+1=>fun n l=>by
   have ih:=Sv q
   rw [Bt,Bt,DV,DV]
   refine Oa (Le.refl _) (GV (YS (RB (fun i y x=>?_) _ _ _)) fun _=>Le.refl _)
   rw [C9,C9]
   exact Oa (GV (ih _ _) fun _=>Le.refl _) (Le.refl _)
theorem fC:∀ (q:Nat) (n:Nd) (l:Int),C8 n→Du n≤q→∃ y,Bt q n l=some y:=by
 intro q
 induction q with
 | zero=>intro n _ _ h;have:=Cu n;omega
 | succ q ih =>
   intro n l hok hq
   obtain ⟨hps,hkl,hks⟩:=EL hok
   have hsz:=Cu n
   rw [Bt,DV]
   cases KT l 0 with
   | true=>exact ⟨_,rfl⟩
   | false =>
     rw [cond_false,E3 hkl,List.drop_zero]
     have key:∀ (m:List Nd),(∀ k∈m,k∈n.kids)→∀ (i:Nat) (x:Int),∃ y,(AT (ρ:=Int) (fun i y x=>C9 (Bt q) l i y x) (fun x=>x) m i x)=some y:=by
       intro m
       induction m with
       | nil=>intro _ i x;exact ⟨_,rfl⟩
       | cons a m ihm =>
         intro hm i x
         rw [AT,C9]
         cases FQ x l with
         | false=>exact ⟨_,rfl⟩
         | true =>
           obtain ⟨y,hy⟩:=ih a (Rh l x) (hks a (hm a (by simp))) (by have:=Fo (hm a (by simp));omega)
           rw [cond_true,hy]
           exact ihm (fun k hk=>hm k (by simp [hk])) _ _
     obtain ⟨y,hy⟩:=key n.kids (fun _ h=>h) 0 1
     rw [hy]
     cases y<;>exact ⟨_,rfl⟩
theorem iC {n:Nd} (hok:C8 n) (l:Int):∃ b,DR n l=some b:=by
 obtain ⟨y,hy⟩:=fC (Du n) n (BM l 1) hok (Nat.le_refl _)
 have:G3 n (BM l 1)=some y:=TP (fun q=>Sv q _ _) hy
 rw [DR,this]
 simp only [Option.bind_some]
 cases KT y l<;>exact ⟨_,rfl⟩
theorem sZ {a b:Nd} (ha:C8 a) (hb:C8 b):∃ y,G4 a b=some y:=by
 obtain ⟨x,hx⟩:=iC ha 400
 obtain ⟨y,hy⟩:=iC hb 400
 rw [G4,hx,hy]
 cases x<;>exact ⟨_,rfl⟩
end Mo
end Go.Proofs.YtkfplcngmiljaaaGreatDoor
namespace Go.Proofs.YtkfplcngmiljaaaGreatDoor
open AI Go
namespace Mo
set_option maxRecDepth 100000
set_option maxHeartbeats 4000000
def cap (ds r:List Dg):List Dg:=(ds++r).take 20
theorem HH (ds a b:List Dg):cap (cap ds a) b=cap ds (a++b):=by
 unfold cap
 rw [← List.append_assoc]
 generalize ds++a=l
 rw [List.take_append,List.take_append,List.take_take,Nat.min_self,List.length_take]
 by_cases h:l.length≤20
 · rw [Nat.min_eq_right h]
 · rw [Nat.min_eq_left (by omega),show 20 - 20=0 by omega,show 20 - l.length=0 by omega]
theorem FN {ds:List Dg} (h:ds.length≤20):cap ds []=ds:=by
 unfold cap
 rw [List.append_nil,List.take_of_length_le h]
theorem F8 (ds r:List Dg):(cap ds r).length≤20:=by unfold cap;rw [List.length_take];omega
theorem Pt {ds:List Dg} (h:ds.length≤20) (e at_:Int):Ml e at_ ds=cap ds [⟨e,at_⟩]:=by
 unfold Ml cap
 by_cases h2:ds.length < 20
 · rw [if_pos h2,List.take_of_length_le (by simp;omega)]
 · rw [if_neg h2,List.take_append,List.take_of_length_le h,show 20 - ds.length=0 by omega]
   simp
noncomputable def Kr (F:ByteArray→ByteArray) (A:Int→ByteArray) (n:Nd) (us:List ByteArray):ByteArray :=
 AN (n.kind=11) n.unit (AN (n.kind=12) (F n.name) (AN (n.kind=13) (A n.n) (AN (n.kind=14) By
   (AN (n.kind=15) (IQ IH us) (AN (n.kind=16) (IQ n.name us) (AN (n.kind=17) (IQ KV us) (AN (n.kind=18) (AN (N4 (us.headD eS)) (us.headD eS) eS) eS)))))))
noncomputable def ZY (F:ByteArray→ByteArray) (A:Int→ByteArray) (n:Nd) (r:List ByteArray×List Dg):ByteArray×List Dg :=
 AN (∀ u∈r.1,u≠eS) (AN (Kr F A n r.1=eS) (Kr F A n r.1,r.2++[⟨L0 n,n.att⟩]) (Kr F A n r.1,r.2)) (eS,r.2)
mutual
noncomputable def MH (F:ByteArray→ByteArray) (A:Int→ByteArray):Nd→ByteArray×List Dg
 | ⟨kind,name,unit,n,fr,to,known,tab,kids,att⟩=>ZY F A ⟨kind,name,unit,n,fr,to,known,tab,kids,att⟩ (Ku F A kids)
noncomputable def Ku (F:ByteArray→ByteArray) (A:Int→ByteArray):List Nd→List ByteArray×List Dg
 | []=>([],[])
 | k::ks=>((MH F A k).1::(Ku F A ks).1,(MH F A k).2++(Ku F A ks).2)
end
theorem Uo (F:ByteArray→ByteArray) (A:Int→ByteArray) (n:Nd):MH F A n=ZY F A n (Ku F A n.kids):=by cases n;rw [MH]
theorem Oz (F:ByteArray→ByteArray) (A:Int→ByteArray):∀ l:List Nd,Ku F A l=(l.map fun k=>(MH F A k).1,l.flatMap fun k=>(MH F A k).2)
 | []=>by rw [Ku];rfl
 | k::l=>by rw [Ku,Oz F A l];rfl
noncomputable def FS (s:Sc) (x:ByteArray):ByteArray:=(s.facts.get x).getD eS
noncomputable def To (s:Sc) (z:Int):ByteArray:=(s.lines.get ((s.Ah.get z).getD eS)).getD eS
theorem Km {s:Sc}:∀ {l:List Nd},(∀ k∈l,∀ ds:List Dg,ds.length≤20→CU s k ds=((MH (FS s) (To s) k).1,cap ds (MH (FS s) (To s) k).2))→∀ ds:List Dg,ds.length≤20→Dh s l ds=((Ku (FS s) (To s) l).1,cap ds (Ku (FS s) (To s) l).2)
 | [],_,ds,h=>by rw [Dh,Ku,FN h]
 | a::l,hk,ds,h=>by
   rw [Dh,Ku,hk a (by simp) ds h]
   dsimp only
   rw [Km (fun k h'=>hk k (by simp [h'])) _ (F8 _ _),HH]
theorem Sa (s:Sc):∀ (m:Nat) (n:Nd),Du n≤m→∀ ds:List Dg,ds.length≤20→CU s n ds=((MH (FS s) (To s) n).1,cap ds (MH (FS s) (To s) n).2):=by
 intro m
 induction m with
 | zero=>intro n h;have:=Cu n;omega
 | succ m ih =>
   intro n hn ds hd
   have hsz:=Cu n
   rw [QE,Uo,Km (fun k hk=>ih k (by have:=Fo hk;omega)) ds hd]
   unfold aP ZY
   show AN _ (AN (Kr (FS s) (To s) n _=eS) (Kr (FS s) (To s) n _,_) (Kr (FS s) (To s) n _,_)) _=_
   by_cases hu:∀ u∈(Ku (FS s) (To s) n.kids).1,u≠eS
   · rw [Ag hu,Ag hu]
     by_cases hU:Kr (FS s) (To s) n (Ku (FS s) (To s) n.kids).1=eS
     · rw [Ag hU,Ag hU]
       dsimp only
       rw [Pt (F8 _ _),HH]
     · rw [Af hU,Af hU]
   · rw [Af hu,Af hu]
theorem Wu (s:Sc) (n:Nd) {ds:List Dg} (h:ds.length≤20):CU s n ds=((MH (FS s) (To s) n).1,cap ds (MH (FS s) (To s) n).2):=Sa s (Du n) n (Nat.le_refl _) ds h
noncomputable def fact (src:Nd) (x:ByteArray):ByteArray:=(fU 2 src.kids x).getD eS
noncomputable def line (src:Nd) (x:ByteArray):ByteArray:=(fU 3 src.kids x).getD eS
noncomputable def tV (src:Nd) (z:Int):ByteArray:=line src ((fA src.kids z).getD eS)
theorem jG (src:Nd):FS (P1 src)=fact src:=funext fun x=>by unfold FS fact;rw [Y6]
theorem nP (src:Nd):To (P1 src)=tV src:=funext fun z=>by unfold To tV line;rw [PD,Ri]
noncomputable def RZ (src n:Nd):ByteArray×List Dg:=MH (fact src) (tV src) n
theorem Qk (src n:Nd) {ds:List Dg} (h:ds.length≤20):CU (P1 src) n ds=((RZ src n).1,cap ds (RZ src n).2):=by
 rw [Wu _ _ h,jG,nP];rfl
theorem MZ (src e:Nd):Ix src e=AN ((src.kind=1∧e.kind≠1)∧LD src∧LD e) ((RZ src e).1,cap [] (RZ src e).2) (eS,[⟨1,e.att⟩]):=by
 unfold Ix
 rw [Qk src e (by simp)]
noncomputable def J1 (before:List Nd) (a:Nd):List Dg :=
 AN (a.kind=2∨a.kind=3) (AN (∃ b∈before,b.kind=a.kind∧b.name=a.name) [⟨5,a.att⟩] (AN (32≤Bi a.kind before) [⟨2,a.att⟩] (AN (a.kind=3∧(a.unit=A3∨(a.n≠4∧¬ N4 a.unit))) [⟨11,a.att⟩] []))) []
noncomputable def Hq:List Nd→List Nd→List Dg
 | _,[]=>[]
 | b,a::l=>J1 b a++Hq (b++[a]) l
noncomputable def Hr (src:Nd) (c:Nat) (a:Nd):List Dg :=
 AN (60≤c) [⟨2,a.att⟩] (AN (fU 3 src.kids a.name=none) [⟨91,a.att⟩] (AN ((fA src.kids a.n).getD eS≠a.name) [⟨101,a.att⟩] []))
noncomputable def Fh (src a k:Nd):List Dg:=AN (k.n=a.n) [⟨101,k.att⟩] (AN (fA src.kids k.n=none) [⟨91,k.att⟩] [])
noncomputable def QC (src:Nd) (w:ByteArray) (k:Nd):List Dg:=(RZ src k).2++AN ((RZ src k).1≠eS∧w≠eS∧(RZ src k).1≠w) [⟨11,k.att⟩] []
noncomputable def H7 (src a x:Nd):List Dg :=
 AN (x.kind=7) (x.kids.flatMap (Fh src a)) (x.kids.flatMap (QC src (AN (x.kind=6) A3 (line src a.name))))
noncomputable def Xl (src:Nd) (c:Nat) (a:Nd):List Dg:=AN (a.kind=4) (Hr src c a++a.kids.tail.flatMap (H7 src a)) []
noncomputable def K6 (src:Nd):Nat→List Nd→List Dg
 | _,[]=>[]
 | c,a::l=>Xl src c a++K6 src (c+Bi 4 [a]) l
noncomputable def ZG (src:Nd):List Dg:=Hq [] src.kids++K6 src 0 src.kids
noncomputable def Lj (src:Nd):List Dg:=AN (src.kind=1∧LD src) (cap [] (ZG src)) [⟨1,0⟩]
end Mo
end Go.Proofs.YtkfplcngmiljaaaGreatDoor

namespace Go.Proofs.YtkfplcngmiljaaaGreatDoor
open AI Go
namespace Mo
set_option maxRecDepth 100000
set_option maxHeartbeats 4000000
theorem OY (k:Int) (l m:List Nd):Bi k (l++m)=Bi k l+Bi k m:=by
 induction l with
 | nil=>simp [Bi]
 | cons a l ih=>simp only [List.cons_append,Bi,ih];omega
theorem My {ds:List Dg} (h:ds.length≤20) (e at_:Int):An e at_ ds=some ((),cap ds [⟨e,at_⟩]):=by rw [SW,Pt h]
structure Rx (b:List Nd) (w5:Mm ByteArray Bool) (w2:Mm Int Int) (w4:Mm ByteArray Bool):Prop where
 lines:∀ x,((w5.get x).getD false=true)↔∃ a∈b,a.kind=3∧a.name=x
 facts:∀ x,((w4.get x).getD false=true)↔∃ a∈b,a.kind=2∧a.name=x
 N8:∀ k,k=2∨k=3→(w2.get k).getD 0=((Bi k b:Nat):Int)
theorem X3:Rx [] Mm.nil Mm.nil Mm.nil:=⟨fun x=>by simp [Mm.get_nil],fun x=>by simp [Mm.get_nil],fun k _=>by simp [Mm.get_nil,Bi]⟩
theorem Wg {b:List Nd} {w5:Mm ByteArray Bool} {w2:Mm Int Int} {w4:Mm ByteArray Bool} (h:Rx b w5 w2 w4) {a:Nd} (ha:a.kind=4):Rx (b++[a]) w5 w2 w4:=by
 refine ⟨fun x=>(h.lines x).trans ?_,fun x=>(h.facts x).trans ?_,fun k hk=>(h.N8 k hk).trans ?_⟩
 · simp only [List.mem_append,List.mem_singleton]
   constructor
   · rintro ⟨c,hc,e⟩;exact ⟨c,.inl hc,e⟩
   · rintro ⟨c,hc | rfl,e⟩
     · exact ⟨c,hc,e⟩
     · omega
 · simp only [List.mem_append,List.mem_singleton]
   constructor
   · rintro ⟨c,hc,e⟩;exact ⟨c,.inl hc,e⟩
   · rintro ⟨c,hc | rfl,e⟩
     · exact ⟨c,hc,e⟩
     · omega
 · rw [OY]
   simp only [Bi]
   rw [if_neg (by omega)]
   simp
theorem VV {b:List Nd} {w5:Mm ByteArray Bool} {w2:Mm Int Int} {w4:Mm ByteArray Bool} (h:Rx b w5 w2 w4) {a:Nd} (ha:a.kind=3) (hb:b.length < 9223372036854775807):Rx (b++[a]) (w5.set a.name true) (w2.set a.kind (BM ((w2.get a.kind).getD 0) 1)) w4:=by
 have hc:=LK 3 b
 refine ⟨fun x=>?_,fun x=>(h.facts x).trans ?_,fun k hk=>?_⟩
 · rw [Mm.Fp]
   simp only [List.mem_append,List.mem_singleton]
   by_cases e:x=a.name
   · rw [if_pos e]
     exact ⟨fun _=>⟨a,.inr rfl,ha,e.symm⟩,fun _=>rfl⟩
   · rw [if_neg e,h.lines x]
     constructor
     · rintro ⟨c,hc,q⟩;exact ⟨c,.inl hc,q⟩
     · rintro ⟨c,hc | rfl,q⟩
       · exact ⟨c,hc,q⟩
       · exact absurd q.2.symm e
 · simp only [List.mem_append,List.mem_singleton]
   constructor
   · rintro ⟨c,hc,e⟩;exact ⟨c,.inl hc,e⟩
   · rintro ⟨c,hc | rfl,e⟩
     · exact ⟨c,hc,e⟩
     · omega
 · rw [Mm.Fp,ha,OY]
   simp only [Bi,ha]
   rcases hk with rfl | rfl
   · rw [if_neg (by decide),h.N8 2 (.inl rfl),if_neg (by decide)];simp
   · rw [if_pos rfl,h.N8 3 (.inr rfl),if_pos rfl]
     simp only [Option.getD_some]
     rw [C4 (by omega)];omega
theorem Wc {b:List Nd} {w5:Mm ByteArray Bool} {w2:Mm Int Int} {w4:Mm ByteArray Bool} (h:Rx b w5 w2 w4) {a:Nd} (ha:a.kind=2) (hb:b.length < 9223372036854775807):Rx (b++[a]) w5 (w2.set a.kind (BM ((w2.get a.kind).getD 0) 1)) (w4.set a.name true):=by
 have hc:=LK 2 b
 refine ⟨fun x=>(h.lines x).trans ?_,fun x=>?_,fun k hk=>?_⟩
 · simp only [List.mem_append,List.mem_singleton]
   constructor
   · rintro ⟨c,hc,e⟩;exact ⟨c,.inl hc,e⟩
   · rintro ⟨c,hc | rfl,e⟩
     · exact ⟨c,hc,e⟩
     · omega
 · rw [Mm.Fp]
   simp only [List.mem_append,List.mem_singleton]
   by_cases e:x=a.name
   · rw [if_pos e]
     exact ⟨fun _=>⟨a,.inr rfl,ha,e.symm⟩,fun _=>rfl⟩
   · rw [if_neg e,h.facts x]
     constructor
     · rintro ⟨c,hc,q⟩;exact ⟨c,.inl hc,q⟩
     · rintro ⟨c,hc | rfl,q⟩
       · exact ⟨c,hc,q⟩
       · exact absurd q.2.symm e
 · rw [Mm.Fp,ha,OY]
   simp only [Bi,ha]
   rcases hk with rfl | rfl
   · rw [if_pos rfl,h.N8 2 (.inl rfl),if_pos rfl]
     simp only [Option.getD_some]
     rw [C4 (by omega)];omega
   · rw [if_neg (by decide),h.N8 3 (.inr rfl),if_neg (by decide)];simp
theorem Oe:∀ {l b:List Nd} {i:Nat} {w5:Mm ByteArray Bool} {w2:Mm Int Int} {w4:Mm ByteArray Bool} {ds:List Dg},Rx b w5 w2 w4→(∀ a∈l,a.kind=2∨a.kind=3∨a.kind=4)→b.length+l.length≤9223372036854775807→ds.length≤20 →
   ∃ x5 x2 x4,AT (fun i y x=>Bm i y x.1 x.2.1 x.2.2.1 x.2.2.2) (fun x=>(x.1,x.2.1,x.2.2.1,x.2.2.2)) l i (w5,w2,ds,w4)=(some (.inl (x5,x2,cap ds (Hq b l),x4)):Option ((Mm ByteArray Bool×Mm Int Int×List Dg×Mm ByteArray Bool)⊕(Unit×List Dg)))
 | [],b,i,w5,w2,w4,ds,_,_,_,hd=>⟨w5,w2,w4,by rw [Hq,FN hd];rfl⟩
 | a::l,b,i,w5,w2,w4,ds,hI,hk,hl,hd=>by
   simp only [List.length_cons] at hl
   have next:∀ {x5:Mm ByteArray Bool} {x2:Mm Int Int} {x4:Mm ByteArray Bool} {d2:List Dg},Rx (b++[a]) x5 x2 x4→d2=cap ds (J1 b a) →
       ∃ y5 y2 y4,(some (Lp.nx (x5,x2,d2,x4))).bind (GB (AT (fun i y x=>Bm i y x.1 x.2.1 x.2.2.1 x.2.2.2) (fun x=>(x.1,x.2.1,x.2.2.1,x.2.2.2)) l (i+1)))=(some (.inl (y5,y2,cap ds (Hq b (a::l)),y4)):Option ((Mm ByteArray Bool×Mm Int Int×List Dg×Mm ByteArray Bool)⊕(Unit×List Dg))):=by
     rintro x5 x2 x4 d2 h rfl
     obtain ⟨y5,y2,y4,e⟩:=Oe (l:=l) (b:=b++[a]) (i:=i+1) (w5:=x5) (w2:=x2) (w4:=x4) (ds:=cap ds (J1 b a)) h (fun k hk'=>hk k (by simp [hk'])) (by simp;omega) (F8 _ _)
     exact ⟨y5,y2,y4,by rw [Hq,← HH];exact e⟩
   rw [AT,Bm]
   simp only [Bk,Ej,Cw,QZ,My hd,Option.bind_some,sB,FT]
   rcases hk a (by simp) with k2 | k3 | k4
   · rw [Af (by omega),Af (by omega),Ag k2]
     have hI':=Wc hI k2 (by omega)
     have ed:∀ {x y:List Dg},J1 b a=AN (∃ c∈b,c.kind=2∧c.name=a.name) [⟨5,a.att⟩] (AN (32≤Bi 2 b) [⟨2,a.att⟩] []):=by
       intro _ _
       unfold J1
       rw [Ag (.inl k2),k2]
       congr 2
       exact Af fun q=>by omega
     by_cases h5:((w4.get a.name).getD false=true)
     · rw [Ag h5]
       refine next hI' ?_
       rw [ed (x:=[]) (y:=[]),Ag ((hI.facts _).1 h5)]
     · rw [Af h5]
       have hn:=fun q=>h5 ((hI.facts _).2 q)
       rw [Mm.Fp,if_pos rfl,k2,hI.N8 2 (.inl rfl)]
       simp only [Option.getD_some]
       have hc:=LK 2 b
       rw [C4 (by omega)]
       by_cases h32:32≤Bi 2 b
       · rw [Ag (by omega)]
         rw [k2,hI.N8 2 (.inl rfl),C4 (by omega)] at hI'
         refine next hI' ?_
         rw [ed (x:=[]) (y:=[]),Af hn,Ag h32]
       · rw [Af (by omega)]
         rw [k2,hI.N8 2 (.inl rfl),C4 (by omega)] at hI'
         refine next hI' ?_
         rw [ed (x:=[]) (y:=[]),Af hn,Af h32,FN hd]
   · rw [Af (by omega),Ag k3]
     have hI':=VV hI k3 (by omega)
     have ed:∀ {x y:List Dg},J1 b a=AN (∃ c∈b,c.kind=3∧c.name=a.name) [⟨5,a.att⟩] (AN (32≤Bi 3 b) [⟨2,a.att⟩] (AN (a.unit=A3∨(a.n≠4∧¬ N4 a.unit)) [⟨11,a.att⟩] [])):=by
       intro _ _
       unfold J1
       rw [Ag (.inr k3),k3]
       simp only [true_and]
     by_cases h5:((w5.get a.name).getD false=true)
     · rw [Ag h5]
       refine next hI' ?_
       rw [ed (x:=[]) (y:=[]),Ag ((hI.lines _).1 h5)]
     · rw [Af h5]
       have hn:=fun q=>h5 ((hI.lines _).2 q)
       rw [Mm.Fp,if_pos rfl,k3,hI.N8 3 (.inr rfl)]
       simp only [Option.getD_some]
       have hc:=LK 3 b
       rw [C4 (by omega)]
       rw [k3,hI.N8 3 (.inr rfl),C4 (by omega)] at hI'
       by_cases h32:32≤Bi 3 b
       · rw [Ag (by omega)]
         refine next hI' ?_
         rw [ed (x:=[]) (y:=[]),Af hn,Ag h32]
       · rw [Af (by omega)]
         by_cases ht:a.unit=A3
         · rw [Ag ht]
           refine next hI' ?_
           rw [ed (x:=[]) (y:=[]),Af hn,Af h32,Ag (.inl ht)]
         · rw [Af ht]
           by_cases h4:a.n=4
           · rw [Ag h4]
             refine next hI' ?_
             rw [ed (x:=[]) (y:=[]),Af hn,Af h32,Af (fun q=>q.elim ht fun r=>r.1 h4),FN hd]
           · rw [Af h4]
             by_cases hc2:N4 a.unit
             · rw [Ag hc2]
               refine next hI' ?_
               rw [ed (x:=[]) (y:=[]),Af hn,Af h32,Af (fun q=>q.elim ht fun r=>r.2 hc2),FN hd]
             · rw [Af hc2]
               refine next hI' ?_
               rw [ed (x:=[]) (y:=[]),Af hn,Af h32,Ag (.inr ⟨h4,hc2⟩)]
   · rw [Ag k4]
     refine next (Wg hI k4) ?_
     have:J1 b a=[]:=by unfold J1;rw [Af (by omega)]
     rw [this,FN hd]
theorem eK {n:Nd} (hok:C8 n) (hk:∀ a∈n.kids,a.kind=2∨a.kind=3∨a.kind=4):BT n []=some ((),cap [] (Hq [] n.kids)):=by
 obtain ⟨hps,hkl,hks⟩:=EL hok
 obtain ⟨x5,x2,x4,e⟩:=Oe (l:=n.kids) (b:=[]) (i:=0) (ds:=[]) X3 hk (by simp;omega) (by simp)
 rw [BT,E3 hkl,List.drop_zero,e]
 rfl
theorem NB {src a:Nd}:∀ {l:List Nd} {i:Nat} {ds:List Dg},ds.length≤20→AT (fun i y x=>Bl (P1 src) a i y x) (fun x=>x) l i ds=(some (.inl (cap ds (l.flatMap (Fh src a)))):Option (List Dg⊕(Unit×List Dg)))
 | [],i,ds,hd=>by rw [List.flatMap_nil,FN hd];rfl
 | k::l,i,ds,hd=>by
   rw [AT,Bl,List.flatMap_cons,← HH]
   simp only [Bk,My hd,Option.bind_some,sB,FT,Ri]
   have next:∀ {d2:List Dg},d2=cap ds (Fh src a k)→(some (Lp.nx d2)).bind (GB (AT (fun i y x=>Bl (P1 src) a i y x) (fun x=>x) l (i+1)))=(some (.inl (cap (cap ds (Fh src a k)) (l.flatMap (Fh src a)))):Option (List Dg⊕(Unit×List Dg))):=by
     rintro _ rfl
     exact NB (F8 _ _)
   unfold Fh
   by_cases h:k.n=a.n
   · rw [Ag h]
     have:=next (d2:=cap ds [⟨101,k.att⟩]) (by unfold Fh;rw [Ag h])
     unfold Fh at this
     rw [Ag h] at this ⊢
     exact this
   · rw [Af h]
     by_cases h2:(fA src.kids k.n).isSome=true
     · rw [Ag h2]
       have hn:¬ fA src.kids k.n=none:=fun e=>by rw [e] at h2;cases h2
       have:=next (d2:=ds) (by unfold Fh;rw [Af h,Af hn,FN hd])
       unfold Fh at this
       rw [Af h] at this ⊢
       exact this
     · rw [Af h2]
       have hn:fA src.kids k.n=none:=by simpa using h2
       have:=next (d2:=cap ds [⟨91,k.att⟩]) (by unfold Fh;rw [Af h,Ag hn])
       unfold Fh at this
       rw [Af h] at this ⊢
       exact this
theorem YJ {src a x:Nd} (hok:C8 x) (hc:Bq x) (hs:Du x≤2000) (h68:x.kind=6∨x.kind=7∨x.kind=8) {ds:List Dg} (hd:ds.length≤20):AU (P1 src) a x ds=some ((),cap ds (H7 src a x)):=by
 obtain ⟨hps,hkl,hks⟩:=EL hok
 rw [AU]
 simp only [Bk,Cw,sB,FT,PD]
 unfold H7
 by_cases k7:x.kind=7
 · rw [Ag k7,Ag k7,E3 hkl,List.drop_zero,NB hd];rfl
 rw [Af k7,Af k7]
 obtain ⟨h1,h2⟩:=hc.2.2 k7
 have hsz:=Cu x
 generalize x.kids=ks at *
 match ks,h1 with
 | [k],_ =>
 have hek:=h2 k (by simp)
 have hsk:Du k≤2000:=by simp [GQ] at hsz;omega
 simp only [List.getElem?_cons_zero,Option.bind_some,List.flatMap_cons,List.flatMap_nil,List.append_nil]
 rw [UE hek hsk,Qk src k hd]
 simp only [Option.bind_some]
 rw [My (F8 _ _)]
 simp only [Option.bind_some,HH]
 have key:∀ w:ByteArray,AN ((RZ src k).1=ByteArray.empty) (some ((),cap ds (RZ src k).2)) (AN (w=ByteArray.empty) (some ((),cap ds (RZ src k).2)) (AN ((RZ src k).1=w) (some ((),cap ds (RZ src k).2)) (some ((),cap ds ((RZ src k).2++[⟨11,k.att⟩])))))=some ((),cap ds (QC src w k)):=by
   intro w
   unfold QC
   by_cases a1:(RZ src k).1=eS
   · rw [Ag a1,Af fun q=>q.1 a1,List.append_nil]
   rw [Af a1]
   by_cases a2:w=eS
   · rw [Ag a2,Af fun q=>q.2.1 a2,List.append_nil]
   rw [Af a2]
   by_cases a3:(RZ src k).1=w
   · rw [Ag a3,Af fun q=>q.2.2 a3,List.append_nil]
   rw [Af a3,Ag ⟨a1,a2,a3⟩]
 by_cases k6:x.kind=6
 · rw [Ag k6,Ag k6];exact key A3
 · rw [Af k6,Af k6];exact key (line src a.name)
theorem Mr {src a:Nd} {body:Nat→Nd→List Dg→Option (Lp (List Dg) (List Dg) (List Dg))} (hb:∀ i y x,body i y x=(AU (P1 src) a y x).bind fun (_,b)=>some (.nx b)) :
   ∀ {l:List Nd} {i:Nat} {ds:List Dg},(∀ x∈l,C8 x∧Bq x∧Du x≤2000∧(x.kind=6∨x.kind=7∨x.kind=8))→ds.length≤20→AT body (fun x=>x) l i ds=(some (.inl (cap ds (l.flatMap (H7 src a)))):Option (List Dg⊕List Dg))
 | [],i,ds,_,hd=>by rw [List.flatMap_nil,FN hd];rfl
 | x::l,i,ds,h,hd=>by
   obtain ⟨h1,h2,h3,h4⟩:=h x (by simp)
   rw [AT,hb,YJ h1 h2 h3 h4 hd,List.flatMap_cons,← HH]
   exact Mr hb (fun y hy=>h y (by simp [hy])) (F8 _ _)
theorem M7 {src:Nd}:∀ {l:List Nd} {i:Nat} {c:Nat} {ds:List Dg},(∀ a∈l,C8 a∧F1 a∧Du a≤2000)→c+l.length≤9223372036854775807→ds.length≤20→∃ z,AT (fun i y x=>Ec (P1 src) i y x.1 x.2) (fun x=>x.2) l i (((c:Nat):Int),ds)=(some (.inl z):Option (List Dg⊕List Dg))∧z=cap ds (K6 src c l)
 | [],i,c,ds,_,_,hd=>⟨ds,rfl,by rw [K6,FN hd]⟩
 | a::l,i,c,ds,h,hc,hd=>by
   simp only [List.length_cons] at hc
   obtain ⟨hok,hit,hsz⟩:=h a (by simp)
   obtain ⟨hps,hkl,hks⟩:=EL hok
   rw [AT,Ec,K6,← HH]
   simp only [Bk,Ej,Cw,sB,FT,My hd,Option.bind_some,PD,Ri]
   unfold Xl
   by_cases k4:a.kind=4
   rotate_left
   · rw [Af k4,Af k4,FN hd]
     have e:c+Bi 4 [a]=c:=by simp [Bi,k4]
     rw [e]
     exact M7 (fun y hy=>h y (by simp [hy])) (by omega) hd
   rw [Ag k4,Ag k4]
   obtain ⟨_,_,_,x,cs,hkids,hkin,_,_,_,hcl⟩:=(tT k4).1 hit
   have e:c+Bi 4 [a]=c+1:=by simp [Bi,k4]
   rw [e]
   have hcs:∀ y∈cs,C8 y∧Bq y∧Du y≤2000∧(y.kind=6∨y.kind=7∨y.kind=8):=by
     intro y hy
     have hm:y∈a.kids:=by rw [hkids];simp [hy]
     have:=hkin y hy
     exact ⟨hks y hm,hcl y hy,by have:=Mb hm;omega,by omega⟩
   have hsub:Jz a.kids 1 ((a.kids.length:Nat):Int)=some cs:=by
     unfold Jz
     rw [hkids,if_pos (by simp only [List.length_cons];omega)]
     simp
   have hcl':cs.length≤9223372036854775807:=by rw [hkids] at hkl;simp at hkl;omega
   rw [hsub]
   simp only [Option.bind_some,List.drop_zero,E3 hcl']
   rw [C4 (by omega)]
   have htail:a.kids.tail=cs:=by rw [hkids];rfl
   rw [htail]
   have next:∀ {body:Nat→Nd→List Dg→Option (Lp (List Dg) (List Dg) (List Dg))} {d0:List Dg},(∀ i y x,body i y x=(AU (P1 src) a y x).bind fun (_,b)=>some (.nx b))→d0=cap ds (Hr src c a) →
       ∃ z,(((AT body (fun x=>x) cs 0 d0).bind (GA (fun (w:List Dg)=>some (Lp.nx (((c:Nat):Int)+1,w))) (fun v=>some (.rt v)))).bind (GB (AT (fun i y x=>Ec (P1 src) i y x.1 x.2) (fun x=>x.2) l (i+1))))=(some (.inl z):Option (List Dg⊕List Dg))∧z=cap (cap ds (Hr src c a++cs.flatMap (H7 src a))) (K6 src (c+1) l):=by
     rintro body _ hb rfl
     rw [Mr hb hcs (F8 _ _),HH]
     have ih:=M7 (src:=src) (l:=l) (i:=i+1) (c:=c+1) (ds:=cap ds (Hr src c a++cs.flatMap (H7 src a))) (fun y hy=>h y (by simp [hy])) (by omega) (F8 _ _)
     rw [show (((c+1:Nat)):Int)=((c:Nat):Int)+1 by omega] at ih
     exact ih
   unfold Hr
   by_cases hl:(fU 3 src.kids a.name).isSome=true
   · have hn:¬ fU 3 src.kids a.name=none:=fun e=>by rw [e] at hl;cases hl
     rw [Ag hl]
     by_cases h60:60≤c
     · rw [Ag (by omega),Ag h60]
       have:=next (body:=fun i y x=>Gd (P1 src) a i y x) (d0:=cap ds [⟨2,a.att⟩]) (fun i y x=>rfl) (by unfold Hr;rw [Ag h60])
       unfold Hr at this
       rw [Ag h60] at this
       exact this
     · rw [Af (by omega),Af h60,Af hn]
       by_cases hA:(fA src.kids a.n).getD ByteArray.empty=a.name
       · rw [Ag hA]
         have:=next (body:=fun i y x=>Gv (P1 src) a i y x) (d0:=ds) (fun i y x=>rfl) (by unfold Hr;rw [Af h60,Af hn,Af (fun q=>q hA),FN hd])
         unfold Hr at this
         rw [Af h60,Af hn] at this
         exact this
       · rw [Af hA]
         have:=next (body:=fun i y x=>Gw (P1 src) a i y x) (d0:=cap ds [⟨101,a.att⟩]) (fun i y x=>rfl) (by unfold Hr;rw [Af h60,Af hn,Ag hA])
         unfold Hr at this
         rw [Af h60,Af hn] at this
         exact this
   · have hn:fU 3 src.kids a.name=none:=by simpa using hl
     rw [Af hl]
     by_cases h60:60≤c
     · rw [Ag (by omega),Ag h60]
       have:=next (body:=fun i y x=>Gh (P1 src) a i y x) (d0:=cap ds [⟨2,a.att⟩]) (fun i y x=>rfl) (by unfold Hr;rw [Ag h60])
       unfold Hr at this
       rw [Ag h60] at this
       exact this
     · rw [Af (by omega),Af h60,Ag hn]
       have:=next (body:=fun i y x=>Ga (P1 src) a i y x) (d0:=cap ds [⟨91,a.att⟩]) (fun i y x=>rfl) (by unfold Hr;rw [Af h60,Ag hn])
       unfold Hr at this
       rw [Af h60,Ag hn] at this
       exact this
theorem bN {n:Nd} (h:LD n) (hk:n.kind=1):C1 n z0∧(∀ k∈n.kids,F1 k)∧Du n≤2000∧JM n≤40:=by
 obtain ⟨a | a,b⟩:=h
 · exact ⟨a.2.1,a.2.2,b⟩
 · exact absurd hk a.1
theorem Vu {src:Nd} (hs:C8 src):CG src=some (Lj src):=by
 obtain ⟨hps,hkl,hks⟩:=EL hs
 rw [CG,Q5 hs,Vk hs]
 simp only [Option.bind_some,Bk,Bv]
 unfold Lj
 by_cases k1:src.kind=1
 rotate_left
 · rw [Af k1,Af fun q=>k1 q.1]
 rw [Ag k1]
 by_cases v:LD src
 rotate_left
 · rw [Af v,Af fun q=>v q.2]
 rw [Ag v,Ag ⟨k1,v⟩]
 obtain ⟨_,hit,hsz,_⟩:=bN v k1
 have hkind:∀ a∈src.kids,a.kind=2∨a.kind=3∨a.kind=4:=fun a ha=>Rb (hit a ha)
 rw [show Dd=some () from rfl,eK hs hkind]
 simp only [Option.bind_some]
 rw [E3 hkl,List.drop_zero]
 obtain ⟨z,e,rfl⟩:=M7 (src:=src) (l:=src.kids) (i:=0) (c:=0) (ds:=cap [] (Hq [] src.kids)) (fun a ha=>⟨hks a ha,hit a ha,by have:=Mb ha;omega⟩) (by omega) (F8 _ _)
 have e':(((0:Nat):Int))=0:=rfl
 rw [e'] at e
 rw [e,HH]
 rfl
end Mo
end Go.Proofs.YtkfplcngmiljaaaGreatDoor

namespace Go.Proofs.YtkfplcngmiljaaaGreatDoor
open AI Go
namespace Mo
set_option maxRecDepth 100000
set_option maxHeartbeats 4000000
theorem UO (c:Int):EF c=some (mb (97≤c∧c≤122)):=by
 rw [EF];simp only [Fy,Bv,F5,Ee]
theorem cZ (c:Int):FL c=some (mb (48≤c∧c≤57)):=by
 rw [FL];simp only [Fy,Bv,F5,Ee]
theorem dW (c:Int):DX c=some (mb (65≤c∧c≤90)):=by
 rw [DX];simp only [Fy,Bv,F5,Ee]
theorem Ib (n a b:Int):AQ n a b=some (mb (a≤n∧n≤b)):=by
 rw [AQ];simp only [Fy,Bv,F5,Ee]
theorem jW (l:List ByteArray) (s:ByteArray) (hl:l.length≤9223372036854775807):EZ l s=some (mb (s∈l)):=by
 unfold EZ
 rw [Hf (v:=true) (P:=fun _ y=>¬ y=s) hl (fun i y _=>by
   unfold IP
   simp only [Cw,Bv,V2])]
 simp only [sJ]
 refine JN ?_
 constructor
 · intro h
   exact Classical.byContradiction fun hn=>h fun i y hy e=>hn (e▸List.mem_of_getElem? hy)
 · intro h hn
   obtain ⟨i,hi⟩:=List.getElem?_of_mem h
   exact hn i s hi rfl
theorem gU (s:ByteArray):E4 s=some (mb (Ui s)):=by
 rw [E4,Bk,Bv]
 unfold Ui
 by_cases h:s.data.toList.length=3
 · rw [Ag (by omega)]
   generalize s.data.toList=l at h
   match l,h with
   | [a,b,c],_ =>
     simp only [List.getElem?_cons_zero,List.getElem?_cons_succ,Option.bind_some,dW,Bv,Ee]
     refine JN ?_
     simp only [List.length_cons,List.length_nil,List.mem_cons,List.not_mem_nil,or_false,true_and,forall_eq_or_imp,forall_eq]
     omega
 · rw [Af (by omega)]
   exact G5 fun q=>h q.1
theorem Xk (s:ByteArray):Fq s=some (mb (FD s)):=by
 rw [Fq]
 simp only [Ej,Bv]
 unfold FD
 by_cases h0:((s.data.toList.length:Nat):Int) < 1
 · rw [Ag h0];exact G5 fun h=>by omega
 rw [Af h0]
 by_cases h1:16 < ((s.data.toList.length:Nat):Int)
 · rw [Ag h1];exact G5 fun h=>by omega
 rw [Af h1]
 obtain ⟨b,hb⟩:∃ b,s.data.toList[0]?=some b:=⟨_,List.getElem?_eq_getElem (by omega)⟩
 rw [hb,show H3=some U6 from rfl]
 simp only [Option.bind_some,UO,Bv]
 rw [jW _ _ (by decide),Hf (v:=false) (P:=fun _ y=>Sl y) (by omega) (fun i y _=>by
   simp only [GO,UO,cZ,Option.bind_some,Bv,Bk,RT,pF]
   congr 2
   unfold Sl
   apply propext
   omega)]
 simp only [Option.bind_some,Bv,F5,cS,Ee,Lo]
 refine JN ?_
 constructor
 · rintro ⟨h3,h5,h6⟩
   exact ⟨by omega,⟨b,rfl,by omega⟩,h5,h6⟩
 · rintro ⟨h3,⟨c,hc,h4⟩,h5,h6⟩
   cases hc
   exact ⟨by omega,h5,h6⟩
def zD (n:Nd):Prop:=n.fr=0∧n.to=0∧n.known=0
def zT (n:Nd):Prop:=n.tab.den=0∧n.tab.ps=[]
theorem RY {α:Type} (l:List α):(((l.length:Nat):Int)=0)=(l=[]):=propext ⟨fun h=>List.eq_nil_of_length_eq_zero (by omega),fun h=>by rw [h];rfl⟩
section
variable (n:Nd)
theorem RG:C0 n=some (mb (n.name=eS∧n.unit=eS∧n.n=0∧zD n∧zT n)):=by
 rw [C0];simp only [Bk,Cw,Bv,F5,Ee,RY,zD,zT];exact JN (by simp only [and_assoc])
theorem Xm:DL n=some (mb (n.name=eS∧zD n∧zT n∧n.kids=[])):=by
 rw [DL];simp only [Bk,Cw,Bv,F5,Ee,RY,zD,zT];exact JN (by simp only [and_assoc])
theorem nK:DK n=some (mb (n.unit=eS∧n.n=0∧zD n∧zT n∧n.kids=[])):=by
 rw [DK];simp only [Bk,Cw,Bv,F5,Ee,RY,zD,zT];exact JN (by simp only [and_assoc])
theorem kG:Ez n=some (mb (n.name=eS∧n.unit=eS∧zD n∧zT n∧n.kids=[])):=by
 rw [Ez];simp only [Bk,Cw,Bv,F5,Ee,RY,zD,zT];exact JN (by simp only [and_assoc])
theorem cE:Dx n=some (mb (n.unit=eS∧n.n=0∧zD n∧zT n)):=by
 rw [Dx];simp only [Bk,Cw,Bv,F5,Ee,RY,zD,zT];exact JN (by simp only [and_assoc])
theorem ZW:D7 n=some (mb (n.name=eS∧n.unit=eS∧n.n=0∧zD n)):=by
 rw [D7];simp only [Bk,Cw,Bv,F5,Ee,zD]
theorem jT:CT n=some (mb (n.n=0∧zD n∧zT n∧n.kids=[])):=by
 rw [CT];simp only [Bk,Cw,Bv,F5,Ee,RY,zD,zT];exact JN (by simp only [and_assoc])
theorem jV:CS n=some (mb (zD n∧zT n∧n.kids=[])):=by
 rw [CS];simp only [Bk,Cw,Bv,F5,Ee,RY,zD,zT];exact JN (by simp only [and_assoc])
theorem bS:Cy n=some (mb (n.unit=eS∧zD n∧zT n)):=by
 rw [Cy];simp only [Bk,Cw,Bv,F5,Ee,RY,zD,zT];exact JN (by simp only [and_assoc])
theorem bR:Eb n=some (mb (n.name=eS∧n.unit=eS∧zT n∧n.kids=[])):=by
 rw [Eb];simp only [Bk,Cw,Bv,F5,Ee,RY,zT];exact JN (by simp only [and_assoc])
end
theorem Tu {α:Type} {l:List α}:l.length=0↔l=[]:=List.length_eq_zero_iff
theorem N2 {a d m:Int} (hd:0 < d) (h:a.tmod d=0):(-m≤a.tdiv d∧a.tdiv d≤m)↔(-(m*d)≤a∧a≤m*d):=by
 have e:d*a.tdiv d=a:=Int.mul_tdiv_cancel' (Int.dvd_of_tmod_eq_zero h)
 generalize a.tdiv d=q at *
 subst e
 constructor
 · rintro ⟨h1,h2⟩
   have a1:=Int.mul_le_mul_of_nonneg_left h1 (Int.le_of_lt hd)
   have a2:=Int.mul_le_mul_of_nonneg_left h2 (Int.le_of_lt hd)
   rw [Int.mul_neg,Int.mul_comm d m] at a1
   rw [Int.mul_comm d m] at a2
   exact ⟨a1,a2⟩
 · rintro ⟨h1,h2⟩
   rw [Int.mul_comm m d] at h1 h2
   refine ⟨Int.le_of_mul_le_mul_left ?_ hd,Int.le_of_mul_le_mul_left h2 hd⟩
   rw [Int.mul_neg];exact h1
theorem cQ (f:Fn) (hf:dQ f):FG f=some (mb (Uk f)):=by
 obtain ⟨hl,hpc⟩:=hf
 rw [FG,Ib,Ib]
 simp only [Option.bind_some,Bv]
 by_cases hr:1≤f.den∧f.den≤1000000
 rotate_left
 · rw [Af hr];exact G5 fun q=>hr q.1
 rw [Ag hr]
 by_cases hn:1≤((f.ps.length:Nat):Int)∧((f.ps.length:Nat):Int)≤64
 rotate_left
 · rw [Af hn];exact G5 fun q=>hn ⟨by have:=q.2.1;omega,by have:=q.2.1;omega⟩
 rw [Ag hn,Hf (v:=false) (P:=fun i y=>L5 f i y∧(i=0→y.fr=0)) hl (fun i y hy=>by
   have hi:i < f.ps.length:=(List.getElem?_eq_some_iff.1 hy).1
   obtain ⟨_,hat,_⟩:=hpc y (List.mem_of_getElem? hy)
   have hden:f.den≠0:=by omega
   have hd0:0 < f.den:=by omega
   have hm:PJ y.att f.den=some (y.att.tmod f.den):=by unfold PJ iO;rw [if_neg hden]
   have hq:YN y.att f.den=some (y.att.tdiv f.den):=by
     unfold YN jC
     rw [if_neg hden]
     have h1:(y.att.tdiv f.den).natAbs≤y.att.natAbs:=Int.natAbs_tdiv_le_natAbs _ _
     have h3:-9223372036854775808≤y.att.tdiv f.den∧y.att.tdiv f.den≤9223372036854775807:=by
       by_cases hneg:f.den=1
       · rw [hneg,Int.tdiv_one];exact hat
       · have h2:y.att.natAbs≤9223372036854775808:=by omega
         have h4:(y.att.tdiv f.den).natAbs < 9223372036854775808:=by
           rw [Int.natAbs_tdiv]
           have h5:2≤f.den.natAbs:=by omega
           have:y.att.natAbs / f.den.natAbs≤y.att.natAbs / 2:=Nat.div_le_div_left h5 (by decide)
           have h6:y.att.natAbs / 2≤9223372036854775808 / 2:=Nat.div_le_div_right h2
           exact Nat.lt_of_le_of_lt (Nat.le_trans this h6) (by decide)
         omega
     congr 1
     have h7:=MB h3
     rw [L1] at h7
     exact h7
   have hwm1:PO 999999999999 f.den=999999999999*f.den:=Vf (by omega)
   have hwm2:PO (-999999999999) f.den=-(999999999999*f.den):=by rw [Vf (by omega)];omega
   simp only [Gk,hm,hq,Ib,Option.bind_some,Bk,Ej,Fy,Bv]
   unfold L5
   rw [hm,hwm1,hwm2]
   by_cases h0:i=0
   · subst h0
     rw [Ag (show (((0:Nat):Int)=0) from rfl)]
     simp only [RT,VY,Xb]
     congr 2
     apply propext
     simp only [Option.some.injEq,Nat.lt_irrefl,false_implies,implies_true,true_and]
     constructor
     · rintro ⟨a,b,c,d,e⟩
       have:=(N2 (m:=999999999999) hd0 a).1 b
       exact ⟨⟨by omega,a,this.2,this.1,c.2,c.1⟩,fun _=>e⟩
     · rintro ⟨⟨a,b,c,d,e,g⟩,h⟩
       exact ⟨b,(N2 hd0 b).2 ⟨d,c⟩,⟨g,e⟩,by omega,h trivial⟩
   · rw [Af (show ¬ (((i:Nat):Int)=0) by omega),Ag (show (0:Int) < ((i:Nat):Int) by omega),Mk (by omega)]
     obtain ⟨pv,hpq⟩:∃ pv,f.ps[i - 1]?=some pv:=⟨_,List.getElem?_eq_getElem (by omega)⟩
     have hg:RU f.ps (((i:Nat):Int) - 1)=some pv:=by
       unfold RU
       rw [show (((i:Nat):Int) - 1).toNat=i - 1 by omega,if_pos (by omega)]
       exact hpq
     rw [hg,hpq]
     simp only [Option.bind_some,V2,VY,Xb]
     congr 2
     apply propext
     simp only [Option.some.injEq,forall_eq']
     constructor
     · rintro ⟨a,b,c,d,e⟩
       have:=(N2 (m:=999999999999) hd0 a).1 b
       exact ⟨⟨by omega,fun q _ e=>by subst e;omega,a,this.2,this.1,c.2,c.1⟩,fun q=>absurd q h0⟩
     · rintro ⟨⟨a,p,b,c,d,e,g⟩,h⟩
       exact ⟨b,(N2 hd0 b).2 ⟨d,c⟩,⟨g,e⟩,by omega,by have:=p pv (by omega) rfl;omega⟩),F5]
 refine JN ?_
 unfold Uk EK
 constructor
 · intro h
   exact ⟨hr,by omega,fun x hx=>(h 0 x hx).2 rfl,fun i p hp=>(h i p hp).1⟩
 · rintro ⟨_,_,h3,h4⟩ i p hp
   exact ⟨h4 i p hp,fun e=>h3 p (by rw [← e];exact hp)⟩
theorem YD (n:Nd):Ed n=some (mb (n.kind=11∧(n.name=eS∧zD n∧zT n∧n.kids=[])∧n.unit=By∧EK n.n)):=by
 rw [Ed,Xm,Ib]
 simp only [Option.bind_some,Bk,Cw,Bv,Ee]
 rfl
end Mo
end Go.Proofs.YtkfplcngmiljaaaGreatDoor
namespace Go.Proofs.YtkfplcngmiljaaaGreatDoor
open AI Go
namespace Mo
set_option maxRecDepth 100000
set_option maxHeartbeats 4000000
theorem UK (l m:List Nd):GQ (l++m)=GQ l+GQ m:=by
 induction l with
 | nil=>simp [GQ]
 | cons a l ih=>simp only [List.cons_append,GQ,ih];omega
theorem YY {l:List Nd} {i:Nat} {y:Nd} (h:l[i]?=some y):GQ (l.take (i+1))=GQ (l.take i)+Du y:=by
 rw [List.take_add_one,h,UK];simp [GQ]
theorem Yd (l:List Nd) (i:Nat):GQ (l.take i)≤GQ l:=by
 have:=UK (l.take i) (l.drop i)
 rw [List.take_append_drop] at this
 omega
theorem rZ:∀ (n:Nat) (e:Nd) (l:Int),C8 e→Du e≤n→l≤1000000→Bt n e l=some (max 0 (min ((Du e:Nat):Int) l)):=by
 intro n
 induction n with
 | zero=>intro e l _ h;have:=Cu e;omega
 | succ n ih =>
   intro e l hok hn hl
   obtain ⟨_,hk,hks⟩:=EL hok
   have hp:=Cu e
   rw [Bt,DV,Xw]
   simp only [Fy,Bv,UA,Ma]
   refine ⟨fun h=>by omega,fun h=>?_⟩
   refine aK (fun i x=>x=min (((1+GQ (e.kids.take i):Nat)):Int) l) hk (by simp [GQ];omega) (fun i y x hy hx=>?_) (fun x hx=>?_)
   · have hm:=List.mem_of_getElem? hy
     have h1:=YY hy
     have h2:=Yd e.kids (i+1)
     have h3:=Mb hm
     simp only [C9,Ej,Bv,UA,VA,Ma,qS,rY]
     refine ⟨fun h4=>?_,fun h4=>by omega⟩
     rw [Mk (by omega),ih y (l - x) (hks y hm) (by omega) (by omega),Ma,C4 (by omega)]
     omega
   · rw [List.take_length] at hx
     rw [Ma];omega
theorem sS (e:Nd) (l:Int) (h:C8 e) (hl:0≤l∧l < 1000000):DR e l=some (mb (((Du e:Nat):Int)≤l)):=by
 have hc:G3 e (l+1)=some (max 0 (min ((Du e:Nat):Int) (l+1))):=MI (Du e) fun n hn=>rZ n e (l+1) h hn (by omega)
 rw [DR,C4 (by omega),hc,Xw]
 simp only [Fy,Bv,UA,Ma,VA,Ty,Nq]
 omega
theorem kA:∀ (n:Nat) (e:Nd) (l:Int),C8 e→Du e≤n→-1000000≤l→l≤1000000→DN n e l=some (mb (((JM e:Nat):Int)≤l)):=by
 intro n
 induction n with
 | zero=>intro e l _ h;have:=Cu e;omega
 | succ n ih =>
   intro e l hok hn hl0 hl
   obtain ⟨_,hk,hks⟩:=EL hok
   have hp:=I3 e
   rw [DN,HN,Ej,Bv]
   by_cases h:l < 1
   · rw [Ag h];refine G5 ?_;omega
   rw [Af h,Hf (v:=false) (P:=fun _ y=>((JM y:Nat):Int)≤l - 1) hk (fun i y hy=>by
     have hm:=List.mem_of_getElem? hy
     have h3:=Mb hm
     simp only [GZ]
     rw [Mk (by omega),ih y (l - 1) (hks y hm) (by omega) (by omega) (by omega)]
     simp only [Option.bind_some,Bv,RT]),F5,Lo]
   refine JN ?_
   have h4:(∀ k∈e.kids,((JM k:Nat):Int)≤l - 1)↔UR e.kids≤(l - 1).toNat:=by
     rw [Pv]
     exact ⟨fun h k hk=>by have:=h k hk;omega,fun h k hk=>by have:=h k hk;omega⟩
   rw [h4]
   omega
theorem mC (e:Nd) (h:C8 e):Gb e=some (mb (Du e≤2000∧JM e≤40)):=by
 have hf:Jy e 40=some (mb (((JM e:Nat):Int)≤40)):=MI (Du e) fun n hn=>kA n e 40 h hn (by omega) (by omega)
 rw [Gb,sS e 2000 h (by omega),hf]
 simp only [Option.bind_some,Bv,Ee]
 refine JN ?_
 omega
theorem WX {n:Nd} {nm un:ByteArray} {k f t w:Int} {tb:Fn}:C1 n ⟨0,nm,un,k,f,t,w,tb,[],0⟩↔n.name=nm∧n.unit=un∧n.n=k∧n.fr=f∧n.to=t∧n.known=w∧n.tab.den=tb.den∧n.tab.ps=tb.ps:=Iff.rfl
theorem Qj {k:Nd}:JW k∧J4 k↔(k.kind=11∧(k.name=eS∧zD k∧zT k∧k.kids=[])∧k.unit=By∧EK k.n):=by
 rw [KO]
 unfold J4 zD zT EK
 constructor
 · rintro ⟨⟨h1,_⟩,h2,h3,h4⟩
   obtain ⟨_,_,_,_,hl,hb⟩:=(VQ h2).1 h1
   obtain ⟨b1,_,_,b4,b5,b6,b7,b8⟩:=WX.1 hb
   exact ⟨h2,⟨b1,⟨b4,b5,b6⟩,⟨b7,b8⟩,Tu.1 hl⟩,h3,h4⟩
 · rintro ⟨h2,⟨b1,⟨b4,b5,b6⟩,⟨b7,b8⟩,hl⟩,h3,h4⟩
   refine ⟨⟨(VQ h2).2 ⟨.inr (.inl h3),by omega,by omega,fun e=>?_,by rw [hl];rfl,WX.2 ⟨b1,rfl,rfl,b4,b5,b6,b7,b8⟩⟩,fun k hk=>by rw [hl] at hk;cases hk⟩,h2,h3,h4⟩
   rw [h3] at e
   exact absurd (congrArg ByteArray.data e) (by decide)
theorem fN:∀ (q:Nat) (n:Nd),C8 n→2*Du n≤q→Cr q n=some (mb (JW n)):=by
 intro q
 induction q using Nat.strongRecOn with
 | _ q ih =>
 intro n hok hq
 have hsz:=Cu n
 obtain ⟨q,rfl⟩:∃ k,q=k+1:=⟨q - 1,by omega⟩
 obtain ⟨hps,hkl,hks⟩:=EL hok
 have hfn:=((LU n).1 hok).1
 have hE:∀ k∈n.kids,∀ q',q≤q'+1→q' < q+1→Cr q' k=some (mb (JW k)):=fun k hk q' h4 h5=>ih q' h5 k (hks k hk) (by have:=Fo hk;omega)
 have hL:0 < n.kids.length→C3 q n.kids=some (mb (∀ k∈n.kids,JW k)):=by
   intro h
   obtain ⟨q,rfl⟩:∃ k,q=k+1:=⟨q - 1,by have:=N7 n.kids;omega⟩
   rw [C3,GP,Hf (v:=false) (P:=fun _ y=>JW y) hkl (fun i y hy=>by
     simp only [Gx]
     rw [hE y (List.mem_of_getElem? hy) q (by omega) (by omega)]
     simp only [Option.bind_some,Bv,RT]),F5,Lo]
 rw [Cr,HV]
 simp only [Bk,Cw,Fy,Bv,Xm,nK,kG,RG,cE,ZW,Ib,gU,Xk,YD,cQ _ hfn,Option.bind_some]
 rw [KO]
 have nokids:n.kids=[]→(∀ k∈n.kids,JW k):=fun h k hk=>by rw [h] at hk;cases hk
 by_cases W8:n.kind=11
 · rw [Ag W8,VQ W8,WX,Tu]
   simp only [F5,Ee,bZ,JG,zD,zT,FH]
   have tt:AN (Ui n.unit) (some true) (some true)=some (mb True):=by rw [JG,gY]
   have hb:∀ {A:Prop},AN A (some (mb True)) (some false)=some (mb A):=by intro A;rw [Ee];exact JN (by simp)
   first
     | (simp only [tt,gY,Ee,aD])
     | skip
   refine JN ⟨?_,?_⟩
   · rintro ⟨⟨b1,⟨b2,b3,b4⟩,⟨b5,b6⟩,b7⟩,h1,h2⟩
     refine ⟨?_,nokids b7⟩
     by_cases ht:n.unit=A3
     · have:=h1 ht
       exact ⟨.inl ht,by omega,by omega,fun _=>by omega,b7,b1,trivial,trivial,b2,b3,b4,b5,b6⟩
     · obtain ⟨h3,h4⟩:=h2 ht
       refine ⟨?_,by omega,by omega,fun h=>absurd h ht,b7,b1,trivial,trivial,b2,b3,b4,b5,b6⟩
       rcases h4 with h | h | h
       · exact .inr (.inr (.inr h))
       · exact .inr (.inl h)
       · exact .inr (.inr (.inl h))
   · rintro ⟨⟨h0,h1,h2,h3,b7,b1,_,_,b2,b3,b4,b5,b6⟩,_⟩
     refine ⟨⟨b1,⟨b2,b3,b4⟩,⟨b5,b6⟩,b7⟩,fun ht=>⟨⟨h1,h3 ht⟩,h1,h2⟩,fun ht=>⟨⟨h1,h2⟩,?_⟩⟩
     rcases h0 with h | h | h | h
     · exact absurd h ht
     · exact .inr (.inl h)
     · exact .inr (.inr h)
     · exact .inl h
 rw [Af W8]
 by_cases Vd:n.kind=12
 · rw [Ag Vd,fF Vd,WX,Tu]
   simp only [Ee,zD,zT]
   refine JN ?_
   constructor
   · rintro ⟨⟨b1,b2,⟨b3,b4,b5⟩,⟨b6,b7⟩,b8⟩,h⟩
     exact ⟨⟨h,b8,trivial,b1,b2,b3,b4,b5,b6,b7⟩,nokids b8⟩
   · rintro ⟨⟨h,b8,_,b1,b2,b3,b4,b5,b6,b7⟩,_⟩
     exact ⟨⟨b1,b2,⟨b3,b4,b5⟩,⟨b6,b7⟩,b8⟩,h⟩
 rw [Af Vd]
 by_cases Zu:n.kind=13
 · rw [Ag Zu,eO Zu,WX,Tu]
   simp only [Ee,zD,zT]
   refine JN ?_
   constructor
   · rintro ⟨⟨b1,b2,⟨b3,b4,b5⟩,⟨b6,b7⟩,b8⟩,h⟩
     exact ⟨⟨h,b8,b1,b2,trivial,b3,b4,b5,b6,b7⟩,nokids b8⟩
   · rintro ⟨⟨h,b8,b1,b2,_,b3,b4,b5,b6,b7⟩,_⟩
     exact ⟨⟨b1,b2,⟨b3,b4,b5⟩,⟨b6,b7⟩,b8⟩,h⟩
 rw [Af Zu]
 by_cases XZ:n.kind=14
 · rw [Ag XZ,cO XZ,WX,Tu,jW _ _ (by decide)]
   simp only [Option.bind_some,Ee,zD,zT]
   refine JN ?_
   have hd:n.name∈[EB,NQ,Hk,JU]↔Ov n.name:=by
     unfold Ov
     simp only [List.mem_cons,List.not_mem_nil,or_false]
   rw [hd]
   constructor
   · rintro ⟨⟨b1,b2,⟨b3,b4,b5⟩,⟨b6,b7⟩,b8⟩,h⟩
     exact ⟨⟨h,b8,trivial,b1,b2,b3,b4,b5,b6,b7⟩,nokids b8⟩
   · rintro ⟨⟨h,b8,_,b1,b2,b3,b4,b5,b6,b7⟩,_⟩
     exact ⟨⟨b1,b2,⟨b3,b4,b5⟩,⟨b6,b7⟩,b8⟩,h⟩
 rw [Af XZ]
 have hone:∀ {β:Type} (f:Bool→Option β),n.kids.length=1→((n.kids[0]?).bind fun x=>(Cr q x).bind f)=f (mb (∀ k∈n.kids,JW k)):=by
   intro β f hl
   have hE0:=fun k hk=>hE k hk q (by omega) (by omega)
   generalize n.kids=ks at *
   match ks,hl with
   | [x],_ =>
   simp only [List.getElem?_cons_zero,Option.bind_some]
   rw [hE0 x (by simp)]
   simp only [Option.bind_some]
   congr 1
   exact FM (by simp)
 by_cases Xr:n.kind=15
 · rw [Ag Xr,Zc Xr,WX]
   by_cases hl:n.kids.length=1
   · rw [Ag (show ((n.kids.length:Nat):Int)=1 by omega),hone _ hl]
     simp only [Ee,zD,zT]
     refine JN ?_
     constructor
     · rintro ⟨⟨b1,b2,b0,⟨b3,b4,b5⟩,⟨b6,b7⟩⟩,h⟩
       exact ⟨⟨hl,b1,b2,b0,b3,b4,b5,b6,b7⟩,h⟩
     · rintro ⟨⟨_,b1,b2,b0,b3,b4,b5,b6,b7⟩,h⟩
       exact ⟨⟨b1,b2,b0,⟨b3,b4,b5⟩,⟨b6,b7⟩⟩,h⟩
   · rw [Af (show ¬ ((n.kids.length:Nat):Int)=1 by omega),JG]
     exact G5 fun a=>hl a.1.1
 rw [Af Xr]
 by_cases Vc:n.kind=16
 · rw [Ag Vc,Yb Vc,WX,jW _ _ (by decide)]
   have hop:n.name∈[Sy,IH,Ir,IB,On,Iz,KV,IY,Oi,Jo,R7]↔PU n.name:=by
     unfold PU
     simp only [List.mem_cons,List.not_mem_nil,or_false]
     constructor
     · rintro (h | h | h | h | h | h | h | h | h | h | h)<;>simp [h]
     · rintro (h | h | h | h | h | h | h | h | h | h | h)<;>simp [h]
   by_cases hl:n.kids.length=2
   rotate_left
   · rw [Af (show ¬ ((n.kids.length:Nat):Int)=2 by omega),JG]
     exact G5 fun a=>hl a.1.2.1
   rw [Ag (show ((n.kids.length:Nat):Int)=2 by omega),hL (by omega)]
   have hk1:n.kids[1]?=some n.kids[1]:=List.getElem?_eq_getElem (by omega)
   have hmem:n.kids[1]∈n.kids:=List.getElem_mem _
   rw [hk1]
   simp only [Option.bind_some,YD,Bv,Ee,aD,hop,zD,zT]
   refine JN ?_
   have hnum:=@Qj n.kids[1]
   unfold zD zT at hnum
   generalize n.kids[1]=x at *
   simp only [Option.some.injEq,forall_eq']
   constructor
   · rintro ⟨⟨b2,b0,⟨b3,b4,b5⟩,⟨b6,b7⟩⟩,h1,h2⟩
     by_cases hs:n.name=Jo
     · obtain ⟨c1,c2,c3⟩:=h1 hs
       exact ⟨⟨⟨trivial,b2,b0,b3,b4,b5,b6,b7⟩,hl,c2,fun _=>(hnum.2 c1).2⟩,c3⟩
     · obtain ⟨c2,c3⟩:=h2 hs
       exact ⟨⟨⟨trivial,b2,b0,b3,b4,b5,b6,b7⟩,hl,c2,fun h=>absurd h hs⟩,c3⟩
   · rintro ⟨⟨⟨_,b2,b0,b3,b4,b5,b6,b7⟩,_,c2,c1⟩,c3⟩
     exact ⟨⟨b2,b0,⟨b3,b4,b5⟩,⟨b6,b7⟩⟩,fun hs=>⟨hnum.1 ⟨c3 x hmem,c1 hs⟩,c2,c3⟩,fun _=>⟨c2,c3⟩⟩
 rw [Af Vc]
 by_cases X6:n.kind=17
 · rw [Ag X6,ZL X6,WX]
   by_cases hl:2≤n.kids.length
   rotate_left
   · rw [Af (show ¬ 2≤((n.kids.length:Nat):Int) by omega),JG]
     exact G5 fun a=>hl a.1.2.2
   rw [Ag (show 2≤((n.kids.length:Nat):Int) by omega),hL (by omega)]
   simp only [Option.bind_some,Ee,aD,zD,zT]
   refine JN ?_
   constructor
   · rintro ⟨⟨b2,b0,⟨b3,b4,b5⟩,⟨b6,b7⟩⟩,h1,h2⟩
     by_cases hs:n.name=GH
     · exact ⟨⟨.inl hs,⟨trivial,b2,b0,b3,b4,b5,b6,b7⟩,hl⟩,h1 hs⟩
     · exact ⟨⟨.inr (h2 hs).1,⟨trivial,b2,b0,b3,b4,b5,b6,b7⟩,hl⟩,(h2 hs).2⟩
   · rintro ⟨⟨c1,⟨_,b2,b0,b3,b4,b5,b6,b7⟩,_⟩,c3⟩
     exact ⟨⟨b2,b0,⟨b3,b4,b5⟩,⟨b6,b7⟩⟩,fun _=>c3,fun hs=>⟨c1.resolve_left hs,c3⟩⟩
 rw [Af X6]
 by_cases Zg:n.kind=18
 · rw [Ag Zg,Yy Zg,WX]
   by_cases hl:n.kids.length=1
   · rw [Ag (show ((n.kids.length:Nat):Int)=1 by omega),hone _ hl]
     simp only [Bv,Ee,zD]
     refine JN ?_
     constructor
     · rintro ⟨⟨b1,b2,b0,⟨b3,b4,b5⟩⟩,h,h2⟩
       exact ⟨⟨⟨b1,b2,b0,b3,b4,b5,trivial,trivial⟩,h2,hl⟩,h⟩
     · rintro ⟨⟨⟨b1,b2,b0,b3,b4,b5,_,_⟩,h2,_⟩,h⟩
       exact ⟨⟨b1,b2,b0,⟨b3,b4,b5⟩⟩,h,h2⟩
   · rw [Af (show ¬ ((n.kids.length:Nat):Int)=1 by omega),JG]
     exact G5 fun a=>hl a.1.2.2
 rw [Af Zg]
 exact G5 fun a=>by have:=NW a.1;omega
theorem ZI {n:Nd} (hok:C8 n):Fe n=some (mb (JW n)):=MI (2*Du n) fun q hq=>fN q n hok hq
theorem kL {n:Nd}:Dt n=some (mb (IM n)):=by
 rw [Dt,bR]
 simp only [Ib,Option.bind_some,Bk,Bv]
 unfold IM
 rw [WX,Tu]
 unfold zT WQ
 by_cases hf:0≤n.fr∧n.fr≤36524
 · rw [C4 (by omega)]
   simp only [Ee]
   refine JN ⟨?_,?_⟩
   · rintro ⟨k5,⟨b1,b2,⟨b3,b4⟩,b5⟩,⟨h1,h2⟩,h3,⟨h4,h5⟩,h6⟩
     exact ⟨k5,⟨h1,h2⟩,b5,h3,⟨by omega,h5⟩,h6,b1,b2,trivial,trivial,trivial,trivial,b3,b4⟩
   · rintro ⟨k5,h1,b5,h3,⟨h4,h5⟩,h6,b1,b2,_,_,_,_,b3,b4⟩
     exact ⟨k5,⟨b1,b2,⟨b3,b4⟩,b5⟩,h1,h3,⟨by omega,h5⟩,h6⟩
 · rw [Af hf]
   simp only [JG]
   exact G5 fun a=>hf a.2.2.2.1
theorem VM (l:List Nd) (hl:l.length≤9223372036854775807):EA l=some (mb (0 < l.length∧∀ k∈l,JW k∧J4 k)):=by
 rw [EA,Hf (v:=false) (P:=fun _ k=>JW k∧J4 k) hl (fun i k _=>by
   simp only [Fi,YD,Option.bind_some,Bv,RT,Qj]),Ej,Bv]
 simp only [F5,Ee,Lo]
 exact JN ⟨fun a=>⟨by omega,a.1⟩,fun a=>⟨a.2,by omega⟩⟩
theorem TL (n:Nd):C1 n z0↔n.name=eS∧n.unit=eS∧n.n=0∧zD n∧zT n:=by
 unfold zD zT
 rw [WX]
 simp only [and_assoc]
theorem KA:∀ {l:List Nd} {i:Nat} {a b:Nat},(∀ x∈l,C8 x)→a+l.length≤9223372036854775807→b+l.length≤9223372036854775807 →
   AT (fun i y x=>Cb i y x.1 x.2) (fun x=>(x.1,x.2)) l i (((a:Nat):Int),((b:Nat):Int))=(some (AN (kinds l∧∀ k∈l,Bq k) (.inl (((a+Bi 7 l:Nat):Int),((b+Bi 8 l:Nat):Int))) (.inr false)):Option ((Int×Int)⊕Bool))
 | [],i,a,b,_,_,_=>by rw [Ag (show kinds []∧_ from ⟨fun k hk=>(by cases hk),fun k hk=>(by cases hk)⟩)];rfl
 | x::l,i,a,b,hok,ha,hb=>by
   simp only [List.length_cons] at ha hb
   have hx:=hok x (by simp)
   obtain ⟨hps,hkl,hks⟩:=EL hx
   rw [AT,Cb,RG]
   simp only [Option.bind_some,Bk,Bv,VM _ hkl]
   have hsplit:(kinds (x::l)∧∀ k∈x::l,Bq k)↔((6≤x.kind∧x.kind≤8)∧Bq x)∧kinds l∧∀ k∈l,Bq k:=by
     unfold kinds
     simp only [List.mem_cons,forall_eq_or_imp]
     exact ⟨fun ⟨⟨p,q⟩,r,s⟩=>⟨⟨p,r⟩,q,s⟩,fun ⟨⟨p,r⟩,q,s⟩=>⟨⟨p,q⟩,r,s⟩⟩
   have stop:¬ ((6≤x.kind∧x.kind≤8)∧Bq x)→(some (Lp.rt false):Option (Lp (Int×Int) (Int×Int) Bool)).bind (GB (AT (fun i y x=>Cb i y x.1 x.2) (fun x=>(x.1,x.2)) l (i+1)))=some (AN (kinds (x::l)∧∀ k∈x::l,Bq k) (.inl (((a+Bi 7 (x::l):Nat):Int),((b+Bi 8 (x::l):Nat):Int))) (.inr false)):=by
     intro h
     rw [Af fun q=>h (hsplit.1 q).1];rfl
   have go:∀ {a' b':Nat},((6≤x.kind∧x.kind≤8)∧Bq x)→a'≤a+1→b'≤b+1→a'+Bi 7 l=a+Bi 7 (x::l)→b'+Bi 8 l=b+Bi 8 (x::l)→(some (Lp.nx (((a':Nat):Int),((b':Nat):Int))):Option (Lp (Int×Int) (Int×Int) Bool)).bind (GB (AT (fun i y x=>Cb i y x.1 x.2) (fun x=>(x.1,x.2)) l (i+1)))=some (AN (kinds (x::l)∧∀ k∈x::l,Bq k) (.inl (((a+Bi 7 (x::l):Nat):Int),((b+Bi 8 (x::l):Nat):Int))) (.inr false)):=by
     intro a' b' h h1 h2 e1 e2
     have ih:=KA (l:=l) (i:=i+1) (a:=a') (b:=b') (fun y hy=>hok y (by simp [hy])) (by omega) (by omega)
     rw [e1,e2] at ih
     show AT _ _ l (i+1) _=_
     rw [ih]
     by_cases hr:kinds l∧∀ k∈l,Bq k
     · rw [Ag hr,Ag (hsplit.2 ⟨h,hr⟩)]
     · rw [Af hr,Af fun q=>hr (hsplit.1 q).2]
   rw [← TL]
   by_cases hb0:C1 x z0
   rotate_left
   · rw [Af hb0];exact stop fun q=>hb0 q.2.1
   rw [Ag hb0]
   have one:∀ {A B:Option (Lp (Int×Int) (Int×Int) Bool)},x.kind≠7→(Bq x→A.bind (GB (AT (fun i y x=>Cb i y x.1 x.2) (fun x=>(x.1,x.2)) l (i+1)))=some (AN (kinds (x::l)∧∀ k∈x::l,Bq k) (.inl (((a+Bi 7 (x::l):Nat):Int),((b+Bi 8 (x::l):Nat):Int))) (.inr false))) →
       (AN (((x.kids.length:Nat):Int)=1) ((x.kids[0]?).bind fun x2=>(Fe x2).bind fun y3=>cond y3 A (some (.rt false))) (some (.rt false))).bind (GB (AT (fun i y x=>Cb i y x.1 x.2) (fun x=>(x.1,x.2)) l (i+1)))=some (AN (kinds (x::l)∧∀ k∈x::l,Bq k) (.inl (((a+Bi 7 (x::l):Nat):Int),((b+Bi 8 (x::l):Nat):Int))) (.inr false)):=by
     intro A B k7 hA
     by_cases hl:x.kids.length=1
     rotate_left
     · rw [Af (by omega)];exact stop fun q=>hl (q.2.2.2 k7).1
     rw [Ag (by omega)]
     obtain ⟨k,hk⟩:∃ k,x.kids=[k]:=by
       generalize x.kids=ks at hl
       match ks,hl with
       | [k],_=>exact ⟨k,rfl⟩
     have h0:x.kids[0]?=some k:=by rw [hk];rfl
     rw [h0]
     simp only [Option.bind_some]
     rw [ZI (hks k (by rw [hk];simp))]
     simp only [Option.bind_some,Bv]
     have hc:Bq x↔JW k:=by
       unfold Bq
       constructor
       · intro q;exact (q.2.2 k7).2 k (by rw [hk];simp)
       · intro q;exact ⟨hb0,fun h=>absurd h k7,fun _=>⟨hl,fun k' hk'=>by rw [hk,List.mem_singleton] at hk';rw [hk'];exact q⟩⟩
     by_cases he:JW k
     · rw [Ag he];exact hA (hc.2 he)
     · rw [Af he];exact stop fun q=>he (hc.1 q.2)
   by_cases k6:x.kind=6
   · rw [Ag k6]
     refine one (B:=none) (by omega) fun h=>go ⟨by omega,h⟩ (by omega) (by omega) (by simp [Bi,k6]) (by simp [Bi,k6])
   rw [Af k6]
   by_cases k8:x.kind=8
   · rw [Ag k8,C4 (by omega),show ((b:Nat):Int)+1=((b+1:Nat):Int) by omega]
     refine one (B:=none) (by omega) fun h=>go ⟨by omega,h⟩ (by omega) (by omega) (by simp [Bi,k8]) (by simp [Bi,k8];omega)
   rw [Af k8]
   by_cases k7:x.kind=7
   · rw [Ag k7]
     have hc:Bq x↔(0 < x.kids.length∧∀ k∈x.kids,JW k∧J4 k):=by
       unfold Bq
       exact ⟨fun q=>q.2.1 k7,fun q=>⟨hb0,fun _=>q,fun h=>absurd k7 h⟩⟩
     rw [← hc]
     by_cases h:Bq x
     · rw [Ag h,C4 (by omega),show ((a:Nat):Int)+1=((a+1:Nat):Int) by omega]
       exact go ⟨by omega,h⟩ (by omega) (by omega) (by simp [Bi,k7];omega) (by simp [Bi,k7])
     · rw [Af h];exact stop fun q=>h q.2
   · rw [Af k7];exact stop fun q=>by have:=q.1;omega
theorem VZ (l:List Nd) (hok:∀ x∈l,C8 x) (hl:l.length≤9223372036854775807):Cs l=some (mb ((kinds l∧∀ k∈l,Bq k)∧Bi 7 l≤1∧Bi 8 l=1)):=by
 have h:=KA (l:=l) (i:=0) (a:=0) (b:=0) hok (by omega) (by omega)
 rw [Cs,E3 hl,List.drop_zero]
 rw [show (((0:Nat):Int))=0 from rfl] at h
 rw [h]
 by_cases hc:kinds l∧∀ k∈l,Bq k
 · rw [Ag hc]
   simp only [Option.bind_some,GA,Fy,Bk,Bv,F5,Ee]
   exact JN ⟨fun q=>⟨hc,by omega,by omega⟩,fun q=>⟨by omega,by omega⟩⟩
 · rw [Af hc]
   exact G5 fun q=>hc q.1
theorem QD {n:Nd} (hok:C8 n) (u:Prop):AN (n.kind=2) (AN (n.n=0∧zD n∧zT n∧n.kids=[]) (some (mb u)) (some false)) (AN (n.kind=3) (AN (zD n∧zT n∧n.kids=[]) (AN u (some (mb (1≤n.n∧n.n≤4))) (some false)) (some false)) (AN (n.kind=4) (AN (n.unit=eS∧zD n∧zT n) (AN (1≤n.n∧n.n≤1000000) (AN (1 < ((n.kids.length:Nat):Int)) ((n.kids[0]?).bind fun x=>(Dt x).bind fun y=>cond y ((Jz n.kids 1 ((n.kids.length:Nat):Int)).bind fun l=>(Cs l).bind fun y=>some y) (some false)) (some false)) (some false)) (some false)) (some false)))=some (mb ((n.kind=2∧u∧n.n=0∧zD n∧zT n∧n.kids=[])∨(n.kind=3∧u∧(1≤n.n∧n.n≤4)∧zD n∧zT n∧n.kids=[])∨(n.kind=4∧(n.unit=eS∧zD n∧zT n)∧EK n.n∧∃ h cs,n.kids=h::cs∧kinds cs∧Bi 8 cs=1∧Bi 7 cs≤1∧IM h∧∀ k∈cs,Bq k))):=by
 obtain ⟨hps,hkl,hks⟩:=EL hok
 by_cases k2:n.kind=2
 · rw [Ag k2,Ee]
   refine JN ⟨fun ⟨a,b⟩=>.inl ⟨k2,b,a⟩,?_⟩
   rintro (a | a | a)
   · exact ⟨a.2.2,a.2.1⟩
   · omega
   · omega
 rw [Af k2]
 by_cases k3:n.kind=3
 · rw [Ag k3,Ee,Ee]
   refine JN ⟨fun ⟨a,b,c⟩=>.inr (.inl ⟨k3,b,c,a⟩),?_⟩
   rintro (a | a | a)
   · omega
   · exact ⟨a.2.2.2,a.2.1,a.2.2.1⟩
   · omega
 rw [Af k3]
 by_cases k4:n.kind=4
 rotate_left
 · rw [Af k4]
   refine G5 ?_
   rintro (a | a | a)
   · omega
   · omega
   · omega
 rw [Ag k4]
 by_cases hl:1 < n.kids.length
 rotate_left
 · rw [Af (show ¬ (1:Int) < ((n.kids.length:Nat):Int) by omega),JG,JG]
   refine G5 ?_
   rintro (a | a | ⟨_,_,_,h,cs,e,_,e8,_⟩)
   · omega
   · omega
   · rw [e] at hl
     have:=LK 8 cs
     simp at hl
     rw [hl] at e8
     cases e8
 rw [Ag (show (1:Int) < ((n.kids.length:Nat):Int) by omega)]
 generalize n.kids=ks at *
 match ks,hl with
 | x::l,_ =>
 have hsub:Jz (x::l) 1 (((x::l).length:Nat):Int)=some l:=by
   unfold Jz
   rw [if_pos (by simp only [List.length_cons];omega)]
   simp
 rw [hsub]
 simp only [List.getElem?_cons_zero,Option.bind_some,kL,Bv]
 rw [VZ l (fun y hy=>hks y (by simp [hy])) (by simp at hkl;omega)]
 simp only [Option.bind_some,Ee]
 refine JN ⟨?_,?_⟩
 · rintro ⟨a,b,c,⟨d,e⟩,f,g⟩
   exact .inr (.inr ⟨k4,a,b,x,l,rfl,d,g,f,c,e⟩)
 · rintro (a | a | ⟨_,a,b,h,cs,e,d,g,f,c,e'⟩)
   · omega
   · omega
   · cases e
     exact ⟨a,b,c,⟨d,e'⟩,f,g⟩
theorem lC {n:Nd} (hok:C8 n):Ge n=some (mb (F1 n)):=by
 have c1:=QD hok True
 simp only [Ag trivial,← gY] at c1
 have c2:=QD hok (n.unit=Cm)
 rw [Ge]
 simp only [Xk,gU,jT,jV,bS,Ib,Option.bind_some,Bk,Cw,Ej,Bv]
 rw [c1,c2]
 have hbare:∀ {un:ByteArray} {k:Int},C1 n ⟨0,n.name,un,k,0,0,0,⟨0,[]⟩,[],0⟩↔n.unit=un∧n.n=k∧zD n∧zT n:=by
   intro un k
   unfold zD zT
   rw [WX]
   simp only [true_and,and_assoc]
 simp only [Ee,aD]
 refine JN ?_
 unfold F1 cU
 simp only [hbare,Tu,true_and]
 constructor
 · rintro ⟨hn,h1,h2⟩
   have uni:∀ {k:Prop},(FH n.unit→((n.kind=2∧n.n=0∧zD n∧zT n∧n.kids=[])∨(n.kind=3∧(1≤n.n∧n.n≤4)∧zD n∧zT n∧n.kids=[])∨(n.kind=4∧(n.unit=eS∧zD n∧zT n)∧EK n.n∧∃ h cs,n.kids=h::cs∧kinds cs∧Bi 8 cs=1∧Bi 7 cs≤1∧IM h∧∀ k∈cs,Bq k)))→FH n.unit→((n.kind=2∧FD n.name∧FH n.unit∧n.kids=[]∧n.n=0∧zD n∧zT n)∨(n.kind=3∧FD n.name∧FH n.unit∧1≤n.n∧n.n≤4∧n.kids=[]∧zD n∧zT n)∨(n.kind=4∧EK n.n∧FD n.name∧(n.unit=eS∧zD n∧zT n)∧∃ h cs,n.kids=h::cs∧kinds cs∧Bi 8 cs=1∧Bi 7 cs≤1∧IM h∧∀ k∈cs,Bq k)):=by
     intro _ h hu
     rcases h hu with ⟨a,b,c,d,e⟩ | ⟨a,b,c,d,e⟩ | ⟨a,b,c,d⟩
     · exact .inl ⟨a,hn,hu,e,b,c,d⟩
     · exact .inr (.inl ⟨a,hn,hu,b.1,b.2,e,c,d⟩)
     · exact .inr (.inr ⟨a,c,hn,b,d⟩)
   by_cases hc:Ui n.unit
   · exact uni (k:=True) (fun _=>h1 hc) (.inr (.inr (.inr hc)))
   obtain ⟨h3,h4⟩:=h2 hc
   by_cases ht:n.unit=A3
   · exact uni (k:=True) (fun _=>h3 ht) (.inl ht)
   obtain ⟨h5,h6⟩:=h4 ht
   by_cases hm:n.unit=By
   · exact uni (k:=True) (fun _=>h5 hm) (.inr (.inl hm))
   rcases h6 hm with ⟨a,b,r⟩ | ⟨a,b,r⟩ | r
   · exact uni (k:=True) (fun _=>.inl ⟨a,r⟩) (.inr (.inr (.inl b)))
   · exact uni (k:=True) (fun _=>.inr (.inl ⟨a,r⟩)) (.inr (.inr (.inl b)))
   · exact .inr (.inr ⟨r.1,r.2.2.1,hn,r.2.1,r.2.2.2⟩)
 · have back:(n.kind=2∧FD n.name∧FH n.unit∧n.kids=[]∧n.n=0∧zD n∧zT n)∨(n.kind=3∧FD n.name∧FH n.unit∧1≤n.n∧n.n≤4∧n.kids=[]∧zD n∧zT n)∨(n.kind=4∧EK n.n∧FD n.name∧(n.unit=eS∧zD n∧zT n)∧∃ h cs,n.kids=h::cs∧kinds cs∧Bi 8 cs=1∧Bi 7 cs≤1∧IM h∧∀ k∈cs,Bq k)→FD n.name∧(n.kind≠4→FH n.unit)∧((n.kind=2∧n.n=0∧zD n∧zT n∧n.kids=[])∨(n.kind=3∧(1≤n.n∧n.n≤4)∧zD n∧zT n∧n.kids=[])∨(n.kind=4∧(n.unit=eS∧zD n∧zT n)∧EK n.n∧∃ h cs,n.kids=h::cs∧kinds cs∧Bi 8 cs=1∧Bi 7 cs≤1∧IM h∧∀ k∈cs,Bq k)):=by
     rintro (⟨a,b,c,d,e,f,g⟩ | ⟨a,b,c,d,d',e,f,g⟩ | ⟨a,b,c,d,e⟩)
     · exact ⟨b,fun _=>c,.inl ⟨a,e,f,g,d⟩⟩
     · exact ⟨b,fun _=>c,.inr (.inl ⟨a,⟨d,d'⟩,f,g,e⟩)⟩
     · exact ⟨c,fun h=>absurd a h,.inr (.inr ⟨a,d,b,e⟩)⟩
   intro h
   obtain ⟨hn,hu,r⟩:=back h
   refine ⟨hn,fun _=>r,fun nc=>⟨fun _=>r,fun nt=>⟨fun _=>r,fun nn=>?_⟩⟩⟩
   rcases r with ⟨a,r⟩ | ⟨a,r⟩ | r
   · have hm:n.unit=Cm:=by
       rcases hu (by omega) with h | h | h | h
       · exact absurd h nt
       · exact absurd h nn
       · exact h
       · exact absurd h nc
     exact .inl ⟨a,hm,r⟩
   · have hm:n.unit=Cm:=by
       rcases hu (by omega) with h | h | h | h
       · exact absurd h nt
       · exact absurd h nn
       · exact h
       · exact absurd h nc
     exact .inr (.inl ⟨a,hm,r⟩)
   · exact .inr (.inr r)
theorem Vs {n:Nd} (hok:C8 n):EG n=some (mb (LD n)):=by
 obtain ⟨hps,hkl,hks⟩:=EL hok
 rw [EG,mC n hok,ZI hok]
 simp only [Option.bind_some,Bv,Bk]
 unfold LD
 by_cases hf:Du n≤2000∧JM n≤40
 rotate_left
 · rw [Af hf];exact G5 fun q=>hf q.2
 rw [Ag hf]
 by_cases k1:n.kind=1
 · rw [Ag k1,Hf (v:=false) (P:=fun _ k=>F1 k) hkl (fun i k hk=>by
     simp only [Gn]
     rw [lC (hks k (List.mem_of_getElem? hk))]
     simp only [Option.bind_some,Bv,RT]),RG]
   simp only [Option.bind_some,Ee,Lo]
   refine JN ⟨fun q=>⟨.inl ⟨k1,(TL n).2 q.2,q.1⟩,hf⟩,?_⟩
   rintro ⟨a | a,_⟩
   · exact ⟨a.2.2,(TL n).1 a.2.1⟩
   · exact absurd k1 a.1
 · rw [Af k1]
   refine JN ⟨fun q=>⟨.inr ⟨k1,q⟩,hf⟩,?_⟩
   rintro ⟨a | a,_⟩
   · exact absurd a.1 k1
   · exact a.2
end Mo
end Go.Proofs.YtkfplcngmiljaaaGreatDoor
namespace Go.Proofs.YtkfplcngmiljaaaGreatDoor
open AI Go
namespace Mo
set_option maxRecDepth 100000
set_option maxHeartbeats 4000000
theorem uV {β:Type} {p:Prop} [Decidable p] {x y:β}:AN p x y=if p then x else y:=by
 by_cases h:p
 · rw [Ag h,if_pos h]
 · rw [Af h,if_neg h]
theorem iff_congr {β:Type} {p q:Prop} {x y z w:β} (h:p↔q) (hx:q→x=z) (hy:¬ q→y=w):AN p x y=AN q z w:=by
 by_cases k:q
 · rw [Ag (h.2 k),Ag k,hx k]
 · rw [Af fun e=>k (h.1 e),Af k,hy k]
structure Ch where
 f:ByteArray
 t:ByteArray
 a:ByteArray
 b:ByteArray
namespace Ch
variable (c:Ch)
def sw (u:ByteArray):ByteArray:=if u=c.a then c.b else if u=c.b then c.a else u
def ro (x:ByteArray):ByteArray:=if x=c.f then c.t else x
def rn (n:Nd):ByteArray:=if n.kind=2∨n.kind=12 then c.ro n.name else n.name
structure Good:Prop where
 ia:N4 c.a
 ib:N4 c.b
 un:FH c.a↔FH c.b
 nm:FD c.t∨c.f=c.t
variable {c}
theorem TZ {u v:ByteArray}:c.sw u=c.sw v↔u=v:=by
 unfold sw
 constructor
 · intro h
   repeat' split at h
   all_goals simp_all
 · rintro rfl;rfl
theorem Gi (g:c.Good) {x:ByteArray} (h:¬ N4 x):c.sw x=x:=by
 unfold sw
 rw [if_neg (fun e:x=c.a=>h (by rw [e];exact g.ia)),if_neg (fun e:x=c.b=>h (by rw [e];exact g.ib))]
theorem Ud:¬ N4 eS:=fun h=>h.1 rfl
theorem oB:¬ N4 A3:=fun h=>h.2.1 rfl
theorem tR:¬ N4 By:=fun h=>h.2.2.1 rfl
theorem zK:¬ N4 Cm:=fun h=>h.2.2.2 rfl
theorem H9 (g:c.Good) {x u:ByteArray} (h:¬ N4 x):c.sw u=x↔u=x:=by
 constructor
 · intro e;exact TZ.1 (e.trans (Gi g h).symm)
 · rintro rfl;exact Gi g h
theorem YM (g:c.Good) {u:ByteArray}:N4 (c.sw u)↔N4 u:=by
 unfold N4
 exact and_congr (not_congr (H9 g Ud)) (and_congr (not_congr (H9 g oB)) (and_congr (not_congr (H9 g tR)) (not_congr (H9 g zK))))
theorem Rg (g:c.Good) {u:ByteArray} (h:FH u):FH (c.sw u):=by
 unfold sw
 split
 · rename_i e;exact g.un.1 (e▸h)
 · split
   · rename_i e;exact g.un.2 (e▸h)
   · exact h
def gd (c:Ch) (x:ByteArray):Prop:=x≠c.t∨c.f=c.t
theorem Xt {x y:ByteArray} (hx:c.gd x) (hy:c.gd y):c.ro x=c.ro y↔x=y:=by
 unfold ro
 unfold gd at hx hy
 constructor
 · intro h
   repeat' split at h
   all_goals grind
 · rintro rfl;rfl
theorem UW (g:c.Good) {x:ByteArray} (h:FD x):FD (c.ro x):=by
 unfold ro
 split
 · rename_i e
   rcases g.nm with n | n
   · exact n
   · rw [← n,← e];exact h
 · exact h
end Ch
mutual
def oD (x:ByteArray):Nd→Prop
 | ⟨_,name,_,_,_,_,_,_,kids,_⟩=>name≠x∧rD x kids
def rD (x:ByteArray):List Nd→Prop
 | []=>True
 | k::ks=>oD x k∧rD x ks
end
theorem b9 {x:ByteArray} {l:List Nd}:rD x l↔∀ k∈l,oD x k:=by
 induction l with
 | nil=>simp [rD]
 | cons k l ih=>simp [rD,ih]
theorem UL {x:ByteArray} (n:Nd):oD x n↔n.name≠x∧∀ k∈n.kids,oD x k:=by cases n;rw [oD,b9]
def nf (c:Ch) (n:Nd):Prop:=oD c.t n∨c.f=c.t
theorem UY {c:Ch} {n:Nd} (h:nf c n):c.gd n.name:=h.imp_left fun h=>((UL n).1 h).1
theorem M3 {c:Ch} {n k:Nd} (h:nf c n) (hk:k∈n.kids):nf c k:=h.imp_left fun h=>((UL n).1 h).2 k hk
mutual
def D0 (c:Ch):Nd→Nd
 | ⟨kind,name,unit,n,fr,to,known,tab,kids,att⟩=>⟨kind,c.rn ⟨kind,name,unit,n,fr,to,known,tab,kids,att⟩,c.sw unit,n,fr,to,known,tab,qC c kids,att⟩
def qC (c:Ch):List Nd→List Nd
 | []=>[]
 | k::ks=>D0 c k::qC c ks
end
theorem U3 (c:Ch):∀ l:List Nd,qC c l=l.map (D0 c)
 | []=>by rw [qC];rfl
 | k::l=>by rw [qC,U3 c l];rfl
theorem Hh (c:Ch) (n:Nd):D0 c n=⟨n.kind,c.rn n,c.sw n.unit,n.n,n.fr,n.to,n.known,n.tab,n.kids.map (D0 c),n.att⟩:=by cases n;rw [D0,U3]
section
variable (c:Ch) (n:Nd)
theorem C5:(D0 c n).kind=n.kind:=by rw [Hh]
theorem CL:(D0 c n).name=c.rn n:=by rw [Hh]
theorem Gu:(D0 c n).unit=c.sw n.unit:=by rw [Hh]
theorem Kj:(D0 c n).n=n.n:=by rw [Hh]
theorem Ds:(D0 c n).kids=n.kids.map (D0 c):=by rw [Hh]
theorem Ox:(D0 c n).att=n.att:=by rw [Hh]
end
theorem QR {c:Ch} {n:Nd} (h:n.kind=2∨n.kind=12):c.rn n=c.ro n.name:=by unfold Ch.rn;rw [if_pos h]
theorem Gj {c:Ch} {n:Nd} (h:¬ (n.kind=2∨n.kind=12)):c.rn n=n.name:=by unfold Ch.rn;rw [if_neg h]
theorem XJ {c:Ch}:∀ {l:List Nd},(∀ k∈l,Du (D0 c k)=Du k∧JM (D0 c k)=JM k)→GQ (l.map (D0 c))=GQ l∧UR (l.map (D0 c))=UR l
 | [],_=>⟨rfl,rfl⟩
 | a::l,h=>by
   obtain ⟨h1,h2⟩:=h a (by simp)
   obtain ⟨h3,h4⟩:=XJ (l:=l) fun k hk=>h k (by simp [hk])
   simp only [List.map_cons,GQ,UR,h1,h2,h3,h4,and_self]
theorem fR (c:Ch):∀ (m:Nat) (n:Nd),Du n≤m→Du (D0 c n)=Du n∧JM (D0 c n)=JM n:=by
 intro m
 induction m with
 | zero=>intro n h;have:=Cu n;omega
 | succ m ih =>
   intro n h
   have hsz:=Cu n
   obtain ⟨h1,h2⟩:=XJ (c:=c) (l:=n.kids) fun k hk=>ih k (by have:=Fo hk;omega)
   rw [Cu (D0 c n),I3 (D0 c n),I3 n,hsz,Ds,h1,h2]
   exact ⟨rfl,rfl⟩
theorem sL (c:Ch) (n:Nd):Du (D0 c n)=Du n∧JM (D0 c n)=JM n:=fR c (Du n) n (Nat.le_refl _)
theorem cV (c:Ch):∀ (m:Nat) (n:Nd),Du n≤m→C8 n→C8 (D0 c n):=by
 intro m
 induction m with
 | zero=>intro n h;have:=Cu n;omega
 | succ m ih =>
   intro n h hok
   have hsz:=Cu n
   obtain ⟨p1,p2,p3⟩:=(LU n).1 hok
   rw [Hh]
   refine (LU _).2 ⟨p1,by simpa using p2,fun y hy=>?_⟩
   obtain ⟨k,hk,rfl⟩:=List.mem_map.1 hy
   exact ih k (by have:=Fo hk;omega) (p3 k hk)
theorem ZO {c:Ch} {n:Nd} (h:C8 n):C8 (D0 c n):=cV c (Du n) n (Nat.le_refl _) h
theorem EN {c:Ch} (g:c.Good) {n:Nd} {m m':Nd} (h:C1 n m) (hn:c.rn n=m'.name) (hu:c.sw m.unit=m'.unit) (e:m'.n=m.n∧m'.fr=m.fr∧m'.to=m.to∧m'.known=m.known∧m'.tab=m.tab):C1 (D0 c n) m':=by
 obtain ⟨h1,h2,h3,h4,h5,h6,h7,h8⟩:=h
 obtain ⟨e1,e2,e3,e4,e5⟩:=e
 rw [Hh]
 refine ⟨hn,?_,?_,?_,?_,?_,?_,?_⟩
 · show c.sw n.unit=_;rw [h2,hu]
 · rw [e1];exact h3
 · rw [e2];exact h4
 · rw [e3];exact h5
 · rw [e4];exact h6
 · rw [e5];exact h7
 · rw [e5];exact h8
theorem Zr {c:Ch} (g:c.Good) {k:Nd} (h:J4 k):J4 (D0 c k):=by
 obtain ⟨h1,h2,h3⟩:=h
 rw [Hh]
 exact ⟨h1,by show c.sw k.unit=_;rw [h2,Ch.Gi g Ch.tR],h3⟩
theorem mZ {c:Ch} (g:c.Good) {n:Nd} (h:LC n):LC (D0 c n):=by
 have e0:=Ch.Gi g Ch.Ud
 have hl:(D0 c n).kids.length=n.kids.length:=by rw [Ds,List.length_map]
 have hk:=C5 c n
 rcases NW h with k | k | k | k | k | k | k | k
 · have nn:=Gj (c:=c) (n:=n) (by omega)
   obtain ⟨a1,a2,a3,a4,a5,a6⟩:=(VQ k).1 h
   refine (VQ (by rw [hk];exact k)).2 ⟨by rw [Gu];exact Ch.Rg g a1,by rw [Kj];exact a2,by rw [Kj];exact a3,fun e=>by rw [Kj];rw [Gu] at e;exact a4 ((Ch.H9 g Ch.oB).1 e),by rw [hl];exact a5,EN g a6 (nn.trans a6.1) (Gu c n).symm ⟨Kj c n,rfl,rfl,rfl,rfl⟩⟩
 · have nn:=QR (c:=c) (n:=n) (by omega)
   obtain ⟨a1,a2,a3⟩:=(fF k).1 h
   exact (fF (by rw [hk];exact k)).2 ⟨by rw [CL,nn];exact Ch.UW g a1,by rw [hl];exact a2,EN g a3 (CL c n).symm e0 ⟨rfl,rfl,rfl,rfl,rfl⟩⟩
 · have nn:=Gj (c:=c) (n:=n) (by omega)
   obtain ⟨a1,a2,a3⟩:=(eO k).1 h
   exact (eO (by rw [hk];exact k)).2 ⟨by rw [Kj];exact a1,by rw [hl];exact a2,EN g a3 (nn.trans a3.1) e0 ⟨Kj c n,rfl,rfl,rfl,rfl⟩⟩
 · have nn:=Gj (c:=c) (n:=n) (by omega)
   obtain ⟨a1,a2,a3⟩:=(cO k).1 h
   exact (cO (by rw [hk];exact k)).2 ⟨by rw [CL,nn];exact a1,by rw [hl];exact a2,EN g a3 (CL c n).symm e0 ⟨rfl,rfl,rfl,rfl,rfl⟩⟩
 · have nn:=Gj (c:=c) (n:=n) (by omega)
   obtain ⟨a1,a2⟩:=(Zc k).1 h
   exact (Zc (by rw [hk];exact k)).2 ⟨by rw [hl];exact a1,EN g a2 (nn.trans a2.1) e0 ⟨rfl,rfl,rfl,rfl,rfl⟩⟩
 · have nn:=Gj (c:=c) (n:=n) (by omega)
   obtain ⟨a1,a2,a3,a4⟩:=(Yb k).1 h
   refine (Yb (by rw [hk];exact k)).2 ⟨EN g a1 (CL c n).symm e0 ⟨rfl,rfl,rfl,rfl,rfl⟩,by rw [hl];exact a2,by rw [CL,nn];exact a3,fun e k' hk'=>?_⟩
   rw [Ds,List.getElem?_map] at hk'
   obtain ⟨y,hy,rfl⟩:=Option.map_eq_some_iff.1 hk'
   exact Zr g (a4 (by rw [CL,nn] at e;exact e) y hy)
 · have nn:=Gj (c:=c) (n:=n) (by omega)
   obtain ⟨a1,a2,a3⟩:=(ZL k).1 h
   exact (ZL (by rw [hk];exact k)).2 ⟨by rw [CL,nn];exact a1,EN g a2 (CL c n).symm e0 ⟨rfl,rfl,rfl,rfl,rfl⟩,by rw [hl];exact a3⟩
 · have nn:=Gj (c:=c) (n:=n) (by omega)
   obtain ⟨a1,a2,a3⟩:=(Yy k).1 h
   have ht:(D0 c n).tab=n.tab:=by rw [Hh]
   exact (Yy (by rw [hk];exact k)).2 ⟨EN g a1 (nn.trans a1.1) e0 ⟨rfl,rfl,rfl,rfl,ht⟩,by rw [ht];exact a2,by rw [hl];exact a3⟩
theorem X7 {c:Ch} (g:c.Good):∀ (m:Nat) (n:Nd),Du n≤m→JW n→JW (D0 c n):=by
 intro m
 induction m with
 | zero=>intro n h;have:=Cu n;omega
 | succ m ih =>
   intro n h he
   have hsz:=Cu n
   obtain ⟨h1,h2⟩:=(KO n).1 he
   refine (KO _).2 ⟨mZ g h1,fun y hy=>?_⟩
   rw [Ds] at hy
   obtain ⟨k,hk,rfl⟩:=List.mem_map.1 hy
   exact ih k (by have:=Fo hk;omega) (h2 k hk)
theorem TU {c:Ch} (g:c.Good) {n:Nd} (h:JW n):JW (D0 c n):=X7 g (Du n) n (Nat.le_refl _) h
theorem MC (c:Ch) (k:Int):∀ l:List Nd,Bi k (l.map (D0 c))=Bi k l
 | []=>rfl
 | a::l=>by rw [List.map_cons,Bi,Bi,C5,MC c k l]
theorem Ww {c:Ch} (g:c.Good) {x:Nd} (hx:6≤x.kind∧x.kind≤8) (h:Bq x):Bq (D0 c x):=by
 obtain ⟨h1,h2,h3⟩:=h
 have nn:=Gj (c:=c) (n:=x) (by omega)
 refine ⟨EN g h1 (nn.trans h1.1) (Ch.Gi g Ch.Ud) ⟨rfl,rfl,rfl,rfl,rfl⟩,fun e=>?_,fun e=>?_⟩
 · rw [C5] at e
   rw [Ds,List.length_map]
   refine ⟨(h2 e).1,fun y hy=>?_⟩
   obtain ⟨k,hk,rfl⟩:=List.mem_map.1 hy
   exact ⟨TU g ((h2 e).2 k hk).1,Zr g ((h2 e).2 k hk).2⟩
 · rw [C5] at e
   rw [Ds,List.length_map]
   refine ⟨(h3 e).1,fun y hy=>?_⟩
   obtain ⟨k,hk,rfl⟩:=List.mem_map.1 hy
   exact TU g ((h3 e).2 k hk)
theorem dL {c:Ch} (g:c.Good) {n:Nd} (h:F1 n):F1 (D0 c n):=by
 have e0:=Ch.Gi g Ch.Ud
 have hl:(D0 c n).kids.length=n.kids.length:=by rw [Ds,List.length_map]
 have hk:=C5 c n
 rcases Rb h with k | k | k
 · have nn:=QR (c:=c) (n:=n) (by omega)
   obtain ⟨a1,a2,a3,a4⟩:=(vW k).1 h
   exact (vW (by rw [hk];exact k)).2 ⟨by rw [CL,nn];exact Ch.UW g a1,by rw [Gu];exact Ch.Rg g a2,by rw [hl];exact a3,EN g a4 (CL c n).symm (Gu c n).symm ⟨rfl,rfl,rfl,rfl,rfl⟩⟩
 · have nn:=Gj (c:=c) (n:=n) (by omega)
   obtain ⟨a1,a2,a3,a4,a5,a6⟩:=(uS k).1 h
   exact (uS (by rw [hk];exact k)).2 ⟨by rw [CL,nn];exact a1,by rw [Gu];exact Ch.Rg g a2,by rw [Kj];exact a3,by rw [Kj];exact a4,by rw [hl];exact a5,EN g a6 (CL c n).symm (Gu c n).symm ⟨Kj c n,rfl,rfl,rfl,rfl⟩⟩
 · have nn:=Gj (c:=c) (n:=n) (by omega)
   obtain ⟨a1,a2,a3,h0,cs,e,q1,q2,q3,q4,q5⟩:=(tT k).1 h
   refine (tT (by rw [hk];exact k)).2 ⟨by rw [Kj];exact a1,by rw [CL,nn];exact a2,EN g a3 (CL c n).symm e0 ⟨Kj c n,rfl,rfl,rfl,rfl⟩,D0 c h0,cs.map (D0 c),by rw [Ds,e,List.map_cons],fun y hy=>?_,by rw [MC];exact q2,by rw [MC];exact q3,?_,fun y hy=>?_⟩
   · obtain ⟨k',hk',rfl⟩:=List.mem_map.1 hy
     rw [C5];exact q1 k' hk'
   · obtain ⟨b1,b2,b3,b4,b5,b6,b7⟩:=q4
     have n5:=Gj (c:=c) (n:=h0) (by omega)
     rw [IM,C5,Kj,Ds,List.length_map]
     refine ⟨b1,b2,b3,?_,?_,?_,EN g b7 (n5.trans b7.1) e0 ⟨rfl,?_,?_,?_,rfl⟩⟩<;>rw [Hh]<;>assumption
   · obtain ⟨k',hk',rfl⟩:=List.mem_map.1 hy
     exact Ww g (q1 k' hk') (q5 k' hk')
theorem Ug {c:Ch} (g:c.Good) {n:Nd} (h:LD n):LD (D0 c n):=by
 obtain ⟨h1,h2,h3⟩:=h
 obtain ⟨s1,s2⟩:=sL c n
 refine ⟨?_,by rw [s1];exact h2,by rw [s2];exact h3⟩
 rw [C5]
 rcases h1 with ⟨k,b,hi⟩ | ⟨k,he⟩
 · have nn:=Gj (c:=c) (n:=n) (by omega)
   refine .inl ⟨k,EN g b (nn.trans b.1) (Ch.Gi g Ch.Ud) ⟨rfl,rfl,rfl,rfl,rfl⟩,fun y hy=>?_⟩
   rw [Ds] at hy
   obtain ⟨k',hk',rfl⟩:=List.mem_map.1 hy
   exact dL g (hi k' hk')
 · exact .inr ⟨k,TU g he⟩
end Mo
end Go.Proofs.YtkfplcngmiljaaaGreatDoor
