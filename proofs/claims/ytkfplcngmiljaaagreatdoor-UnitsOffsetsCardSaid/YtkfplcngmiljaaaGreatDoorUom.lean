/- Part of a proof: see the last text. -/
import Derived.Test.YtkfplcngmiljaaaGreatDoorUol
set_option linter.unusedVariables false
set_option linter.unusedSimpArgs false
namespace Go.Proofs.YtkfplcngmiljaaaGreatDoor
open AI Go
namespace Mo
set_option maxRecDepth 100000
set_option maxHeartbeats 4000000
abbrev z0:Nd:=⟨0,ByteArray.empty,ByteArray.empty,0,0,0,0,⟨0,[]⟩,[],0⟩
theorem lB (n:Int):CK n=some (mb (Xs n)):=by
 rw [CK]
 simp only [Io,C7,PS,iF]
 rfl
def KQ (n:Nd):Prop:=n.kind=5∧(0≤n.n∧n.n≤1000000)∧n.kids.length=0∧Xs n.fr∧(n.fr < n.to∧n.to≤36525)∧Xs n.known∧CF n ⟨0,ByteArray.empty,ByteArray.empty,n.n,n.fr,n.to,n.known,⟨0,[]⟩,[],0⟩
def Eu (n:Nd):Prop:=CF n z0∧(n.kind=7→0 < n.kids.length∧∀ k∈n.kids,LV k∧Kc k)∧(n.kind≠7→n.kids.length=1∧∀ k∈n.kids,LV k)
theorem TH {n:Nd} (h:n.kids.length=0):C5 n=1∧Jo n=1:=by
 have:=List.eq_nil_of_length_eq_zero h
 rw [C9,H6,this]
 exact ⟨rfl,rfl⟩
theorem iB {n:Nd} (hok:DS n) {c d:Int} (h0:0≤c) (h1:c≤2000):Out (Ce ⟨c⟩ n d) (KQ n∧c+C5 n≤2000∧d+Jo n≤41) (c+C5 n):=by
 obtain ⟨hps,hkl,hks⟩:=Gw hok
 have hsz:=C9 n
 have hdp:=H6 n
 rw [Ce]
 refine FJ (MZ n h0 h1) (fun hp=>?_) fun z hp=>El fun a=>hp ⟨by omega,by omega⟩
 dsimp only
 rw [cond_true]
 simp only [CP,Io,E6,C7,lB,MG _ _ hps,Option.bind_some,Pd,RX]
 have key:(n.kind=5∧¬ n.n < 0∧¬ 1000000 < n.n∧¬ (0:Int) < ((n.kids.length:Nat):Int)∧Xs n.fr∧¬ n.to≤n.fr∧¬ 36525 < n.to∧Xs n.known∧CF n ⟨0,ByteArray.empty,ByteArray.empty,n.n,n.fr,n.to,n.known,⟨0,[]⟩,[],0⟩)↔KQ n:=by
   unfold KQ
   constructor
   · rintro ⟨a,b,c',e,f,g,h,i,j⟩;exact ⟨a,⟨by omega,by omega⟩,by omega,f,⟨by omega,by omega⟩,i,j⟩
   · rintro ⟨a,b,c',f,g,i,j⟩;exact ⟨a,by omega,by omega,by omega,f,by omega,by omega,i,j⟩
 refine (KK key).congr ⟨fun a=>⟨a,?_⟩,fun a=>a.1⟩ fun a=>?_
 · have:=TH a.2.2.1;omega
 · have:=TH a.1.2.2.1;omega
theorem WO {n:Nd} (hok:DS n) {c d:Int} (h0:0≤c) (h1:c≤2000) (h2:0≤d):Out (Bw ⟨c⟩ n d) (Eu n∧c+C5 n≤2000∧d+Jo n≤41) (c+C5 n):=by
 obtain ⟨hps,hkl,hks⟩:=Gw hok
 have hsz:=C9 n
 have hdp:=H6 n
 have hd:=@O9 n.kids
 rw [Bw]
 refine FJ (MZ n h0 h1) (fun hp=>?_) fun z hp=>El fun a=>hp ⟨by omega,by omega⟩
 dsimp only
 rw [cond_true,CT (a:=d) (b:=1) (by omega)]
 simp only [CP,E6,C7,MG _ _ hps,Option.bind_some]
 have hc1:=hp.1
 have hd1:=hp.2
 have KV:(∀ k∈n.kids,d+1+Jo k≤41)↔d+Jo n≤41:=by
   constructor
   · intro h
     have:=(hd (m:=(40 - d).toNat)).2 fun k hk=>by have:=h k hk;omega
     omega
   · intro h k hk
     have:=(hd (m:=Vy n.kids)).1 (Nat.le_refl _) k hk
     omega
 refine Db (fun hb=>?_) fun a=>a.1.1
 by_cases k7:n.kind=7
 · rw [Ah k7]
   refine Db (fun hl=>?_) fun a=>by have:=(a.1.2.1 k7).1;omega
   rw [BY,EA hkl,List.drop_zero]
   dsimp only
   refine FN (I1 (g:=Cp) (p:=fun k=>LV k∧Kc k) (d:=d+1) (by omega) hc1 fun k hk c' b0 b1=>W7 (hks k hk) b0 b1 (by omega) (by omega)) ⟨fun a=>⟨⟨hb,fun _=>⟨by omega,fun k hk=>(a.1 k hk).1⟩,fun h=>absurd k7 h⟩,by omega,KV.1 fun k hk=>(a.1 k hk).2⟩,fun a=>⟨fun k hk=>⟨(a.1.2.1 k7).2 k hk,KV.2 a.2.2 k hk⟩,by omega⟩⟩ fun _=>by omega
 · rw [Ad k7]
   refine Db (fun hl=>?_) fun a=>by have:=(a.1.2.2 k7).1;omega
   have hl1:n.kids.length=1:=by omega
   unfold Eu
   generalize n.kids=ks at *
   match ks,hl1 with
   | [x],_ =>
   simp only [List.getElem?_cons_zero,Option.bind_some]
   have e1:E8 [x]=C5 x:=by simp [E8]
   refine FN (WT (hks x (by simp)) (c+1) (d+1) (by omega) hc1 (by omega) (by omega)) ⟨fun a=>⟨⟨hb,fun h=>absurd h k7,fun _=>⟨rfl,fun k hk=>by rw [List.mem_singleton.1 hk];exact a.1⟩⟩,by omega,KV.1 fun k hk=>by rw [List.mem_singleton.1 hk];exact a.2.2⟩,fun a=>⟨(a.1.2.2 k7).2 x (by simp),by omega,KV.2 a.2.2 x (by simp)⟩⟩ fun _=>by omega
def B0 (k:Int):List Nd→Nat
 | []=>0
 | a::l=>(if a.kind=k then 1 else 0)+B0 k l
theorem Ml (k:Int) (l:List Nd):B0 k l≤l.length:=by
 induction l with
 | nil=>simp [B0]
 | cons a l ih=>simp only [B0,List.length_cons];split<;>omega
def kinds (l:List Nd):Prop:=∀ k∈l,6≤k.kind∧k.kind≤8
theorem My {y:Int}:∀ {l:List Nd} {i:Nat} {a b c:Int},0≤a→0≤b→0≤c→a+l.length≤9223372036854775807→b+l.length≤9223372036854775807→c+l.length≤9223372036854775807 →
   A2 (fun i z x=>BF y i z x.1 x.2.1 x.2.2) (fun x=>(x.1,x.2.1,x.2.2)) l i (a,b,c)=some (AO (kinds l) (.inl (a+B0 6 l,b+B0 7 l,c+B0 8 l)) (.inr (false,y)))
 | [],i,a,b,c,_,_,_,_,_,_=>by rw [Ah (show kinds [] from fun k hk=>(by cases hk))];simp [A2,B0]
 | z::l,i,a,b,c,h1,h2,h3,h4,h5,h6=>by
   simp only [List.length_cons] at h4 h5 h6
   rw [A2,BF]
   simp only [E6,CP,C7]
   have hk:kinds (z::l)↔(6≤z.kind∧z.kind≤8)∧kinds l:=by unfold kinds;simp
   have go:∀ {a' b' c':Int},0≤a'→0≤b'→0≤c'→a'≤a+1→b'≤b+1→c'≤c+1→6≤z.kind∧z.kind≤8→a'+B0 6 l=a+B0 6 (z::l)→b'+B0 7 l=b+B0 7 (z::l)→c'+B0 8 l=c+B0 8 (z::l) →
       (some (Lp.nx (a',b',c'))).bind (Gs (A2 (fun i z x=>BF y i z x.1 x.2.1 x.2.2) (fun x=>(x.1,x.2.1,x.2.2)) l (i+1)))=some (AO (kinds (z::l)) (.inl (a+B0 6 (z::l),b+B0 7 (z::l),c+B0 8 (z::l))) (.inr (false,y))):=by
     intro a' b' c' g1 g2 g3 g4 g5 g6 gk e1 e2 e3
     show A2 _ _ l (i+1) (a',b',c')=_
     rw [My g1 g2 g3 (by omega) (by omega) (by omega),e1,e2,e3]
     by_cases hl:kinds l
     · rw [Ah hl,Ah (hk.2 ⟨gk,hl⟩)]
     · rw [Ad hl,Ad fun q=>hl (hk.1 q).2]
   by_cases k6:z.kind < 6
   · rw [Ah k6,Ad fun q=>by have:=(hk.1 q).1;omega];rfl
   rw [Ad k6]
   by_cases k8:8 < z.kind
   · rw [Ah k8,Ad fun q=>by have:=(hk.1 q).1;omega];rfl
   rw [Ad k8]
   by_cases e6:z.kind=6
   · rw [Ah e6,CT (by omega)]
     exact go (by omega) h2 h3 (by omega) (by omega) (by omega) (by omega) (by simp [B0,e6];omega) (by simp [B0,e6]) (by simp [B0,e6])
   rw [Ad e6]
   by_cases e7:z.kind=7
   · rw [Ah e7,CT (by omega)]
     exact go h1 (by omega) h3 (by omega) (by omega) (by omega) (by omega) (by simp [B0,e7]) (by simp [B0,e7];omega) (by simp [B0,e7])
   rw [Ad e7]
   have e8:z.kind=8:=by omega
   rw [Ah e8,CT (by omega)]
   exact go h1 h2 (by omega) (by omega) (by omega) (by omega) (by omega) (by simp [B0,e8]) (by simp [B0,e8]) (by simp [B0,e8];omega)
def UT (n:Nd):Prop:=Ia n.n∧KC n.name∧CF n ⟨0,n.name,ByteArray.empty,n.n,0,0,0,⟨0,[]⟩,[],0⟩∧∃ h cs,n.kids=h::cs∧kinds cs∧B0 8 cs=1∧B0 7 cs≤1∧KQ h∧∀ k∈cs,Eu k
def Fa (n:Nd):Prop :=
 (n.kind=2∧KC n.name∧No n.unit∧n.kids.length=0∧CF n ⟨0,n.name,n.unit,0,0,0,0,⟨0,[]⟩,[],0⟩) ∨
 (n.kind=3∧KC n.name∧No n.unit∧1≤n.n∧n.n≤4∧n.kids.length=0∧CF n ⟨0,n.name,n.unit,n.n,0,0,0,⟨0,[]⟩,[],0⟩) ∨
 (n.kind=4∧UT n)
theorem yY {n:Nd} (h:n.kind=2):Fa n↔KC n.name∧No n.unit∧n.kids.length=0∧CF n ⟨0,n.name,n.unit,0,0,0,0,⟨0,[]⟩,[],0⟩:=by unfold Fa;simp [h]
theorem it3 {n:Nd} (h:n.kind=3):Fa n↔KC n.name∧No n.unit∧1≤n.n∧n.n≤4∧n.kids.length=0∧CF n ⟨0,n.name,n.unit,n.n,0,0,0,⟨0,[]⟩,[],0⟩:=by unfold Fa;simp [h]
theorem xE {n:Nd} (h:n.kind=4):Fa n↔UT n:=by unfold Fa;simp [h]
theorem Tn {n:Nd} (h:Fa n):n.kind=2∨n.kind=3∨n.kind=4:=by
 unfold Fa at h
 rcases h with h | h | h
 all_goals
   have:=h.1
   simp [this]
theorem iJ {n:Nd} (hok:DS n) {c d:Int} (h0:0≤c) (h1:c≤2000) (h2:0≤d):Out (BN ⟨c⟩ n d) (Fa n∧c+C5 n≤2000∧d+Jo n≤41) (c+C5 n):=by
 obtain ⟨hps,hkl,hks⟩:=Gw hok
 have hsz:=C9 n
 have hdp:=H6 n
 have hd:=@O9 n.kids
 rw [BN]
 refine FJ (MZ n h0 h1) (fun hp=>?_) fun z hp=>El fun a=>hp ⟨by omega,by omega⟩
 dsimp only
 rw [cond_true,CT (a:=d) (b:=1) (by omega)]
 have e0:(((n.kids.length:Nat):Int)=0)=(n.kids.length=0):=propext (by omega)
 simp only [CP,Io,E6,C7,TP,Tp,Kq,MG _ _ hps,Option.bind_some,e0]
 have hc1:=hp.1
 have hd1:=hp.2
 have hleaf:∀ {B:Prop},(B↔Fa n)→(B→n.kids.length=0)→Out (some (mb B,c+1)) (Fa n∧c+C5 n≤2000∧d+Jo n≤41) (c+C5 n):=fun hB hk=>(KK hB).congr ⟨fun a=>⟨a,by have:=TH (hk (hB.2 a));omega⟩,fun a=>a.1⟩ fun a=>by have:=TH (hk (hB.2 a.1));omega
 by_cases k2:n.kind=2
 · rw [Ah k2]
   simp only [Pd,RX,Vc]
   refine hleaf ?_ ?_
   · rw [yY k2]
   · intro h;exact h.2.2.1
 rw [Ad k2]
 by_cases k3:n.kind=3
 · rw [Ah k3]
   simp only [Pd,RX,Vc]
   refine hleaf ?_ ?_
   · rw [it3 k3]
   · intro h;exact h.2.2.2.2.1
 rw [Ad k3]
 by_cases k4:n.kind=4
 rotate_left
 · rw [Ad k4];exact El fun a=>by have:=Tn a.1;omega
 rw [Ah k4,xE k4]
 refine Db (fun hr=>Db (fun hn=>Db (fun hb=>?_) fun a=>a.1.2.2.1) fun a=>a.1.2.1) fun a=>a.1.1
 refine Rq (fun hl0=>?_) fun a h=>by obtain ⟨h',cs,hk,_⟩:=a.1.2.2.2;rw [hk] at h;simp at h
 have KV:(∀ k∈n.kids,d+1+Jo k≤41)↔d+Jo n≤41:=by
   constructor
   · intro h
     have:=(hd (m:=(40 - d).toNat)).2 fun k hk=>by have:=h k hk;omega
     omega
   · intro h k hk
     have:=(hd (m:=Vy n.kids)).1 (Nat.le_refl _) k hk
     omega
 unfold UT
 generalize n.kids=ks at *
 match ks,hl0 with
 | x::l,_ =>
 have hsub:LS (x::l) 1 (((x::l).length:Nat):Int)=some l:=by
   unfold LS
   rw [if_pos (by simp only [List.length_cons];omega)]
   simp
 rw [hsub]
 simp only [Option.bind_some,List.length_cons] at hkl ⊢
 have e2:∀ {A:Prop},(∃ h cs,x::l=h::cs∧kinds cs∧B0 8 cs=1∧B0 7 cs≤1∧KQ h∧∀ k∈cs,Eu k)↔(kinds l∧B0 8 l=1∧B0 7 l≤1∧KQ x∧∀ k∈l,Eu k):=by
   intro _
   constructor
   · rintro ⟨h,cs,e,r⟩;cases e;exact r
   · intro r;exact ⟨x,l,rfl,r⟩
 rw [EA (by omega),List.drop_zero,My (by omega) (by omega) (by omega) (by omega) (by omega) (by omega)]
 simp only [Option.bind_some]
 by_cases hK:kinds l
 rotate_left
 · rw [Ad hK]
   show Out (some (false,c+1)) _ _
   exact El fun a=>hK ((e2 (A:=True)).1 a.1.2.2.2).1
 rw [Ah hK]
 show Out (AO ((0:Int)+B0 8 l=1) (AO (1 < (0:Int)+B0 7 l) (some (false,c+1)) _) (some (false,c+1))) _ _
 refine Db (fun h8=>Rq (fun h7=>?_) fun a=>?_) fun a=>?_
 rotate_left
 · have:=((e2 (A:=True)).1 a.1.2.2.2).2.2.1;omega
 · have:=((e2 (A:=True)).1 a.1.2.2.2).2.1;omega
 simp only [List.getElem?_cons_zero,Option.bind_some]
 have hdx:=fun h=>KV.2 h x (by simp)
 have hsl:E8 (x::l)=C5 x+E8 l:=by simp [E8]
 refine FJ (iB (hks x (by simp)) (c:=c+1) (d:=d+1) (by omega) hc1) (fun hx=>?_) fun z hx=>El fun a=>hx ⟨((e2 (A:=True)).1 a.1.2.2.2).2.2.2.1,by omega,hdx a.2.2⟩
 dsimp only
 rw [cond_true,BX,EA (by omega),List.drop_zero]
 dsimp only
 refine FN (I1 (g:=Bw) (p:=Eu) (d:=d+1) (by omega) hx.2.1 fun k hk c' b0 b1=>WO (hks k (by simp [hk])) b0 b1 (by omega)) ?_ fun _=>by omega
 constructor
 · rintro ⟨a,b⟩
   refine ⟨⟨hr,hn,hb,(e2 (A:=True)).2 ⟨hK,by omega,by omega,hx.1,fun k hk=>(a k hk).1⟩⟩,by omega,KV.1 fun k hk=>?_⟩
   rcases List.mem_cons.1 hk with rfl | hk
   · exact hx.2.2
   · exact (a k hk).2
 · rintro ⟨a,b,e⟩
   exact ⟨fun k hk=>⟨((e2 (A:=True)).1 a.2.2.2).2.2.2.2 k hk,KV.2 e k (by simp [hk])⟩,by omega⟩
def NV (n:Nd):Prop:=((n.kind=1∧CF n z0∧∀ k∈n.kids,Fa k)∨(n.kind≠1∧LV n))∧C5 n≤2000∧Jo n≤40
theorem PY {n:Nd} (hok:DS n):CN n=some (mb (NV n)):=by
 obtain ⟨hps,hkl,hks⟩:=Gw hok
 have hsz:=C9 n
 have hdp:=H6 n
 have hd:=@O9 n.kids
 rw [CN,CP,C7]
 have fin:∀ {r:Option (Bool×Int)} {P:Prop} {t:Int},Out r P t→(P↔NV n)→(r.bind fun (a,_)=>some a)=some (mb (NV n)):=by
   rintro r P t ⟨z,rfl,_⟩ h
   rw [En h];rfl
 by_cases k1:n.kind=1
 rotate_left
 · rw [Ad k1]
   refine fin (WT hok 0 1 (by omega) (by omega) (by omega) (by omega)) ?_
   unfold NV
   constructor
   · rintro ⟨a,b,c⟩;exact ⟨.inr ⟨k1,a⟩,by omega,by omega⟩
   · rintro ⟨a | a,b,c⟩
     · exact absurd a.1 k1
     · exact ⟨a.2,by omega,by omega⟩
 rw [Ah k1]
 obtain ⟨z,hz,hz2⟩:=MZ n (c:=0) (d:=1) (by omega) (by omega)
 rw [hz]
 simp only [Option.bind_some,MG _ _ hps,C7]
 by_cases h1:(0:Int)+1≤2000∧(1:Int)≤40
 rotate_left
 · exact absurd ⟨by omega,by omega⟩ h1
 rw [Ah h1,hz2 h1]
 by_cases hb:CF n z0
 rotate_left
 · rw [Ad hb]
   refine MY ?_
   rintro ⟨a | a,_⟩
   · exact hb a.2.1
   · exact a.1 k1
 rw [Ah hb,Ca,EA hkl,List.drop_zero]
 dsimp only
 refine fin (I1 (g:=BN) (p:=Fa) (d:=2) (by omega) (by omega) fun k hk c' b0 b1=>iJ (hks k hk) b0 b1 (by omega)) ?_
 unfold NV
 constructor
 · rintro ⟨a,b⟩
   refine ⟨.inl ⟨k1,hb,fun k hk=>(a k hk).1⟩,by omega,?_⟩
   have:=(hd (m:=39)).2 fun k hk=>by have:=(a k hk).2;omega
   omega
 · rintro ⟨a | a,b,e⟩
   · refine ⟨fun k hk=>⟨a.2.2 k hk,?_⟩,by omega⟩
     have:=(hd (m:=Vy n.kids)).1 (Nat.le_refl _) k hk
     omega
   · exact absurd k1 a.1
end Mo
end Go.Proofs.YtkfplcngmiljaaaGreatDoor
namespace Go.Proofs.YtkfplcngmiljaaaGreatDoor
open AI Go
namespace Mo
set_option maxRecDepth 100000
set_option maxHeartbeats 4000000
theorem Mt {β:Type} {p:Prop} {x y:β}:some (AO p x y)=AO p (some x) (some y):=by
 by_cases h:p
 · rw [Ah h,Ah h]
 · rw [Ad h,Ad h]
abbrev eS:ByteArray:=ByteArray.empty
def Zo (s:ByteArray):Prop:=s≠eS∧s≠A8∧s≠CH∧s≠FG
theorem Qc (s:ByteArray):C8 s=some (mb (Zo s)):=by
 rw [C8]
 simp only [D3,C7,uI,oS]
 rfl
theorem Yg {us:List ByteArray} {a:ByteArray} (ha:us[0]?=some a) (hl:us.length≤9223372036854775807):Bq us.length us=some (mb (∀ u∈us,u=a)):=by
 rw [Bq,WV]
 have h0:0 < us.length:=(List.getElem?_eq_some_iff.1 ha).1
 refine kF (fun i _=>∀ j u,j < i→us[j]?=some u→u=a) hl (fun j u hj=>by omega) (fun i x hi hI=>?_) (fun x hI=>?_)
 · have hx:us[i]?=some us[i]:=List.getElem?_eq_getElem hi
   rw [Ev,hx]
   have hk:JH us.length ((0:Nat):Int)=some 0:=by unfold JH;rw [if_pos (by omega)];rfl
   rw [hk]
   simp only [Option.bind_some,ha,D3,C7]
   by_cases h:us[i]=a
   · rw [Ah h]
     refine ⟨_,rfl,fun j u hj hu=>?_⟩
     rcases Nat.lt_or_ge j i with hlt | hge
     · exact hI j u hlt hu
     · obtain rfl:j=i:=by omega
       rw [hx] at hu;cases hu;exact h
   · rw [Ad h]
     refine ⟨_,rfl,?_⟩
     exact ⟨_,rfl,(RM fun q=>h (q _ (List.getElem_mem hi))).symm⟩
 · refine ⟨_,rfl,(Bl.2 fun u hu=>?_).symm⟩
   obtain ⟨j,hj⟩:=List.getElem?_of_mem hu
   exact hI j u (List.getElem?_eq_some_iff.1 hj).1 hj
noncomputable def Wr (op a b:ByteArray) (E:Prop):ByteArray :=
 AO (op=mW) (AO (a=A8) (AO E A8 eS) eS) (AO (op=Nh) (AO (a=A8) (AO E A8 eS) eS) (AO (op=Pt) (AO E A8 eS) (AO (op=PB) (AO E A8 eS)
   (AO (op=Y4) (AO E (AO (a=A8) eS A8) eS) (AO (op=PD) (AO E (AO (a=A8) eS A8) eS) (AO (op=O8) (AO E (AO (a=A8) eS a) eS) (AO (op=bE) (AO E (AO (a=A8) eS a) eS)
     (AO (op=cV) (AO (a=CH) (AO (b=A8) eS b) (AO (b=CH) (AO (a=A8) eS a) eS)) (AO (op=MK) (AO (a=A8) eS a) (AO (op=nA) (AO (a=FG) (AO (Zo b) b eS) eS) eS))))))))))
theorem kM {op a b:ByteArray} {us:List ByteArray} (ha:us[0]?=some a) (hb:us[us.length - 1]?=some b) (hl:us.length≤9223372036854775807):BH op us.length us=some (Wr op a b (∀ u∈us,u=a)):=by
 have h0:0 < us.length:=(List.getElem?_eq_some_iff.1 ha).1
 have hk:JH us.length ((0:Nat):Int)=some 0:=by unfold JH;rw [if_pos (by omega)];rfl
 have hk2:JH us.length (SM ((us.length:Nat):Int) 1)=some (us.length - 1):=by
   rw [Mp (by omega)]
   unfold JH
   rw [if_pos (by omega)]
   congr 1
   omega
 rw [BH,hk,hk2]
 simp only [Option.bind_some,ha,hb,Yg ha hl,Qc,D3,C7]
 unfold Wr
 simp only [Mt]
noncomputable def II (op:ByteArray) (us:List ByteArray):ByteArray:=Wr op (us.headD eS) (us.getLastD eS) (∀ u∈us,u=us.headD eS)
theorem ZE {op:ByteArray} {us:List ByteArray} (h0:us≠[]) (hl:us.length≤9223372036854775807):BH op us.length us=some (II op us):=by
 cases us with
 | nil=>exact absurd rfl h0
 | cons a l =>
   refine kM (a:=a) (b:=(a::l).getLastD eS) rfl ?_ hl
   rw [List.getLastD_cons,← List.getLast?_eq_getElem?,List.getLast?_cons,List.getLastD_eq_getLast?]
def KM (e at_:Int) (ds:List Dg):List Dg:=if ds.length < 20 then ds++[⟨e,at_⟩] else ds
theorem Qu (e at_:Int) (ds:List Dg):Aj e at_ ds=some ((),KM e at_ ds):=by
 rw [Aj,E6,C7]
 unfold KM
 by_cases h:ds.length < 20
 · rw [Ah (by omega),if_pos h,Tx (by omega)]
 · rw [Ad (by omega),if_neg h]
noncomputable def Dw (s:Sc) (n:Nd) (us:List ByteArray):ByteArray :=
 AO (n.kind=11) n.unit (AO (n.kind=12) ((s.facts.get n.name).getD eS) (AO (n.kind=13) ((s.lines.get ((s.Af.get n.n).getD eS)).getD eS) (AO (n.kind=14) CH
   (AO (n.kind=15) (II Nh us) (AO (n.kind=16) (II n.name us) (AO (n.kind=17) (II O8 us) (AO (n.kind=18) (AO (Zo (us.headD eS)) (us.headD eS) eS) eS)))))))
noncomputable def KT (n:Nd):Int:=AO (n.kind=12) 91 (AO (n.kind=13) 91 11)
noncomputable def cK (s:Sc) (n:Nd) (r:List ByteArray×List Dg):ByteArray×List Dg :=
 AO (∀ u∈r.1,u≠eS) (AO (Dw s n r.1=eS) (Dw s n r.1,KM (KT n) n.att r.2) (Dw s n r.1,r.2)) (eS,r.2)
mutual
noncomputable def B8 (s:Sc):Nd→List Dg→ByteArray×List Dg
 | ⟨kind,name,unit,n,fr,to,known,tab,kids,att⟩,ds=>cK s ⟨kind,name,unit,n,fr,to,known,tab,kids,att⟩ (Cw s kids ds)
noncomputable def Cw (s:Sc):List Nd→List Dg→List ByteArray×List Dg
 | [],ds=>([],ds)
 | k::ks,ds=>((B8 s k ds).1::(Cw s ks (B8 s k ds).2).1,(Cw s ks (B8 s k ds).2).2)
end
theorem OK (s:Sc) (n:Nd) (ds:List Dg):B8 s n ds=cK s n (Cw s n.kids ds):=by cases n;rw [B8]
theorem LO (s:Sc):∀ (l:List Nd) (ds:List Dg),(Cw s l ds).1.length=l.length
 | [],_=>by rw [Cw];rfl
 | k::l,ds=>by rw [Cw];simp [LO s l]
theorem OA {s:Sc} {g:Sc→Nd→List Dg→Option (ByteArray×List Dg)}:∀ {l:List Nd} {done:List ByteArray} {w:Prop} {ds:List Dg},(∀ k∈l,∀ ds,g s k ds=some (B8 s k ds)) →
   A2 (fun i y x=>BG g s i y x.1 x.2.1 x.2.2) (fun x=>(x.1,x.2.1,x.2.2)) l done.length (mb w,done++List.replicate l.length eS,ds)=some (.inl (mb (w∧∀ u∈(Cw s l ds).1,u≠eS),done++(Cw s l ds).1,(Cw s l ds).2))
 | [],done,w,ds,_=>by
   rw [A2,Cw]
   simp
 | k::l,done,w,ds,h=>by
   rw [A2,BG,h k (by simp)]
   have hlt:done.length < (done++List.replicate (k::l).length eS).length:=by simp
   have hx:(done++List.replicate (k::l).length eS)[done.length]?=some eS:=by
     rw [List.getElem?_append_right (Nat.le_refl _)];simp
   have hset:(done++List.replicate (k::l).length eS).set done.length (B8 s k ds).1=(done++[(B8 s k ds).1])++List.replicate l.length eS:=by
     rw [List.set_append_right _ _ (Nat.le_refl _)]
     simp [List.replicate_succ]
   have hg:((done++[(B8 s k ds).1])++List.replicate l.length eS)[done.length]?=some (B8 s k ds).1:=by
     rw [List.append_assoc,List.getElem?_append_right (Nat.le_refl _)];simp
   have ih:=fun w'=>OA (s:=s) (g:=g) (l:=l) (done:=done++[(B8 s k ds).1]) (w:=w') (ds:=(B8 s k ds).2) fun k' hk'=>h k' (by simp [hk'])
   simp only [List.length_append,List.length_cons,List.length_nil,Nat.zero_add] at ih
   simp only [Option.bind_some,hx,hset,hg,D3,C7]
   rw [Cw]
   have fin:∀ w',(w'↔w∧(B8 s k ds).1≠eS)→(Gs (A2 (fun i y x=>BG g s i y x.1 x.2.1 x.2.2) (fun x=>(x.1,x.2.1,x.2.2)) l (done.length+1)) (.nx (mb w',done++[(B8 s k ds).1]++List.replicate l.length eS,(B8 s k ds).2)))=some (.inl (mb (w∧∀ u∈(B8 s k ds).1::(Cw s l (B8 s k ds).2).1,u≠eS),done++((B8 s k ds).1::(Cw s l (B8 s k ds).2).1),(Cw s l (B8 s k ds).2).2)):=by
     intro w' hw
     show A2 _ _ l (done.length+1) _=_
     rw [ih w']
     congr 2
     refine Prod.ext (En ?_) (Prod.ext (by simp) rfl)
     simp only [List.mem_cons,forall_eq_or_imp,hw]
     exact and_assoc
   by_cases hw:w
   · rw [Ah hw]
     by_cases hu:(B8 s k ds).1=eS
     · rw [Ah hu,yH]
       exact fin False ⟨fun q=>q.elim,fun q=>q.2 hu⟩
     · rw [Ad hu,tO]
       exact fin True ⟨fun _=>⟨hw,hu⟩,fun _=>trivial⟩
   · rw [Ad hw,yH]
     exact fin False ⟨fun q=>q.elim,fun q=>hw q.1⟩
section
variable {s:Sc} {n:Nd} {us:List ByteArray}
theorem zW (h:n.kind=11):Dw s n us=n.unit:=by unfold Dw;rw [Ah h]
theorem u12 (h:n.kind=12):Dw s n us=(s.facts.get n.name).getD eS:=by unfold Dw;rw [Ad (by omega),Ah h]
theorem u13 (h:n.kind=13):Dw s n us=(s.lines.get ((s.Af.get n.n).getD eS)).getD eS:=by unfold Dw;rw [Ad (by omega),Ad (by omega),Ah h]
theorem u14 (h:n.kind=14):Dw s n us=CH:=by unfold Dw;rw [Ad (by omega),Ad (by omega),Ad (by omega),Ah h]
theorem u15 (h:n.kind=15):Dw s n us=II Nh us:=by unfold Dw;rw [Ad (by omega),Ad (by omega),Ad (by omega),Ad (by omega),Ah h]
theorem u16 (h:n.kind=16):Dw s n us=II n.name us:=by unfold Dw;rw [Ad (by omega),Ad (by omega),Ad (by omega),Ad (by omega),Ad (by omega),Ah h]
theorem yZ (h:n.kind=17):Dw s n us=II O8 us:=by unfold Dw;rw [Ad (by omega),Ad (by omega),Ad (by omega),Ad (by omega),Ad (by omega),Ad (by omega),Ah h]
theorem zM (h:n.kind=18):Dw s n us=AO (Zo (us.headD eS)) (us.headD eS) eS:=by unfold Dw;rw [Ad (by omega),Ad (by omega),Ad (by omega),Ad (by omega),Ad (by omega),Ad (by omega),Ad (by omega),Ah h]
theorem oU (h:n.kind=12∨n.kind=13):KT n=91:=by
 unfold KT
 by_cases e:n.kind=12
 · rw [Ah e]
 · rw [Ad e,Ah (h.resolve_left e)]
theorem U2 (h1:n.kind≠12) (h2:n.kind≠13):KT n=11:=by unfold KT;rw [Ad h1,Ad h2]
end
theorem oH {n:Nd} (h:JI n) (hk:n.kind=15∨n.kind=16∨n.kind=17∨n.kind=18):0 < n.kids.length:=by
 rcases hk with e | e | e | e
 · have:=((sB e).1 h).1;omega
 · have:=((oM e).1 h).2.1;omega
 · have:=((rW e).1 h).2.2;omega
 · have:=((n4 e).1 h).2.2;omega
theorem ZC:∀ (q:Nat) (s:Sc) (n:Nd) (ds:List Dg),LV n→C5 n≤q→C5 n≤2000→Ba q s n ds=some (B8 s n ds):=by
 intro q
 induction q with
 | zero=>intro s n ds _ h;have:=C9 n;omega
 | succ q ih =>
 intro s n ds he hq h2
 obtain ⟨hQ,hks⟩:=(Mc n).1 he
 have hsz:=C9 n
 have hkl:=Tl n.kids
 rw [Ba,CV,OK]
 have hl:=LO s n.kids ds
 have hf:=OA (s:=s) (g:=Ba q) (l:=n.kids) (done:=[]) (w:=True) (ds:=ds) fun k hk ds'=>ih s k ds' (hks k hk) (by have:=Jh hk;omega) (by have:=Jh hk;omega)
 simp only [List.nil_append,List.length_nil,true_and,← tO] at hf
 unfold cH
 rw [if_pos (by omega),EA (by omega),List.drop_zero,hf]
 show cond (mb (∀ u∈(Cw s n.kids ds).1,u≠eS)) _ _=_
 unfold cK
 generalize hr:Cw s n.kids ds=r at *
 obtain ⟨us,ds2⟩:=r
 dsimp only at hl ⊢
 rw [← hl]
 simp only [C7,CP,D3,Qu,Qc]
 rw [Mt]
 congr 1
 rw [Mt]
 have hne:=fun hk=>oH hQ hk
 have hul:us.length≤9223372036854775807:=by omega
 have hop:∀ op,0 < n.kids.length→BH op us.length us=some (II op us):=fun op h=>ZE (fun e=>by rw [e] at hl;simp at hl;omega) hul
 rcases TT hQ with k | k | k | k | k | k | k | k
 · rw [Ah k,zW k,U2 (by omega) (by omega)];rfl
 · rw [Ad (by omega),Ah k,u12 k,oU (.inl k)];rfl
 · rw [Ad (by omega),Ad (by omega),Ah k,u13 k,oU (.inr k)];rfl
 · rw [Ad (by omega),Ad (by omega),Ad (by omega),Ah k,u14 k,U2 (by omega) (by omega)];rfl
 · rw [Ad (by omega),Ad (by omega),Ad (by omega),Ad (by omega),Ah k,u15 k,U2 (by omega) (by omega),hop Nh (hne (by omega))];rfl
 · rw [Ad (by omega),Ad (by omega),Ad (by omega),Ad (by omega),Ad (by omega),Ah k,u16 k,U2 (by omega) (by omega),hop n.name (hne (by omega))];rfl
 · rw [Ad (by omega),Ad (by omega),Ad (by omega),Ad (by omega),Ad (by omega),Ad (by omega),Ah k,yZ k,U2 (by omega) (by omega),hop O8 (hne (by omega))];rfl
 · rw [Ad (by omega),Ad (by omega),Ad (by omega),Ad (by omega),Ad (by omega),Ad (by omega),Ad (by omega),Ah k,zM k,U2 (by omega) (by omega)]
   have h0:=hne (by omega)
   cases us with
   | nil=>simp at hl;omega
   | cons a l =>
   have hk0:JH (a::l).length ((0:Nat):Int)=some 0:=by unfold JH;rw [if_pos (by simp only [List.length_cons];omega)];rfl
   rw [hk0]
   simp only [Option.bind_some,List.getElem?_cons_zero,List.headD_cons,C7]
   by_cases hc:Zo a
   · rw [Ah hc,Ah hc]
   · rw [Ad hc,Ad hc,Ah trivial,Ah rfl]
theorem S9 {s:Sc} {n:Nd} {ds:List Dg} (he:LV n) (h:C5 n≤2000):Cf s n ds=some (B8 s n ds) :=
 RZ (C5 n) fun q hq=>ZC q s n ds he hq h
end Mo
end Go.Proofs.YtkfplcngmiljaaaGreatDoor
namespace Go.Proofs.YtkfplcngmiljaaaGreatDoor
open AI Go
namespace Mo
set_option maxRecDepth 100000
set_option maxHeartbeats 4000000
noncomputable def fU (k:Int):List Nd→ByteArray→Option ByteArray
 | [],_=>none
 | a::l,x=>AO (a.kind=k∧a.name=x) (some a.unit) (fU k l x)
noncomputable def fA:List Nd→Int→Option ByteArray
 | [],_=>none
 | a::l,z=>AO (a.kind=4∧a.n=z) (some a.name) (fA l z)
abbrev YZ:Type:=Mm ByteArray ByteArray×Mm ByteArray ByteArray×Mm Int ByteArray
noncomputable def HU (a:Nd) (x:YZ):YZ :=
 AO (a.kind=2) (AO ((x.1.get a.name).isSome=true) x (x.1.set a.name a.unit,x.2.1,x.2.2))
   (AO (a.kind=3) (AO ((x.2.1.get a.name).isSome=true) x (x.1,x.2.1.set a.name a.unit,x.2.2))
     (AO (a.kind=4) (AO ((x.2.2.get a.n).isSome=true) x (x.1,x.2.1,x.2.2.set a.n a.name)) x))
noncomputable def P5:List Nd→YZ→YZ
 | [],x=>x
 | a::l,x=>P5 l (HU a x)
noncomputable def Oo (n:Nd):Sc:=⟨(P5 n.kids (Mm.nil,Mm.nil,Mm.nil)).1,(P5 n.kids (Mm.nil,Mm.nil,Mm.nil)).2.1,(P5 n.kids (Mm.nil,Mm.nil,Mm.nil)).2.2⟩
theorem QC:∀ (l:List Nd) (i:Nat) (x:YZ),A2 (fun i y x=>Ct i y x.1 x.2.1 x.2.2) (fun x=>(x.1,x.2.1,x.2.2)) l i x=(some (.inl (P5 l x)):Option (YZ⊕Sc))
 | [],_,_=>rfl
 | a::l,i,x=>by
   rw [A2,Ct,P5]
   have e:∀ x',(some (Lp.nx x'):Option (Lp YZ YZ Sc)).bind (Gs (A2 (fun i y x=>Ct i y x.1 x.2.1 x.2.2) (fun x=>(x.1,x.2.1,x.2.2)) l (i+1)))=some (.inl (P5 l x')):=fun x'=>QC l (i+1) x'
   simp only [CP,C7,qB,ED]
   unfold HU
   by_cases k2:a.kind=2
   · rw [Ah k2,Ah k2]
     by_cases h:(x.1.get a.name).isSome=true
     · rw [Ah h,Ah h];exact e _
     · rw [Ad h,Ad h];exact e _
   rw [Ad k2,Ad k2]
   by_cases k3:a.kind=3
   · rw [Ah k3,Ah k3]
     by_cases h:(x.2.1.get a.name).isSome=true
     · rw [Ah h,Ah h];exact e _
     · rw [Ad h,Ad h];exact e _
   rw [Ad k3,Ad k3]
   by_cases k4:a.kind=4
   · rw [Ah k4,Ah k4]
     by_cases h:(x.2.2.get a.n).isSome=true
     · rw [Ah h,Ah h];exact e _
     · rw [Ad h,Ad h];exact e _
   rw [Ad k4,Ad k4]
   exact e _
theorem Tf {n:Nd} (hok:DS n):CJ n=some (Oo n):=by
 obtain ⟨hps,hkl,hks⟩:=Gw hok
 rw [CJ,EA hkl,List.drop_zero,QC]
 rfl
theorem Ms:∀ (l:List Nd) (x:YZ),(∀ y,(P5 l x).1.get y=(x.1.get y).or (fU 2 l y))∧(∀ y,(P5 l x).2.1.get y=(x.2.1.get y).or (fU 3 l y))∧∀ z,(P5 l x).2.2.get z=(x.2.2.get z).or (fA l z)
 | [],x=>⟨fun y=>by simp [P5,fU],fun y=>by simp [P5,fU],fun z=>by simp [P5,fA]⟩
 | a::l,x=>by
   obtain ⟨h1,h2,h3⟩:=Ms l (HU a x)
   have s1:∀ y,(HU a x).1.get y=(x.1.get y).or (AO (a.kind=2∧a.name=y) (some a.unit) none):=by
     intro y
     unfold HU
     by_cases k2:a.kind=2
     · rw [Ah k2]
       by_cases h:(x.1.get a.name).isSome=true
       · rw [Ah h]
         by_cases e:a.name=y
         · subst e
           obtain ⟨v,hv⟩:=Option.isSome_iff_exists.1 h
           rw [hv];rfl
         · rw [Ad (show ¬ (a.kind=2∧a.name=y) from fun q=>e q.2)];simp
       · rw [Ad h]
         show (x.1.set a.name a.unit).get y=_
         rw [Mm.D9]
         by_cases e:y=a.name
         · subst e
           rw [if_pos rfl,Ah ⟨k2,rfl⟩]
           have:x.1.get a.name=none:=by simpa using h
           rw [this];rfl
         · rw [if_neg e,Ad (show ¬ (a.kind=2∧a.name=y) from fun q=>e q.2.symm)];simp
     · rw [Ad k2,Ad (show ¬ (a.kind=2∧a.name=y) from fun q=>k2 q.1)]
       by_cases k3:a.kind=3
       · rw [Ah k3]
         by_cases h:(x.2.1.get a.name).isSome=true
         · rw [Ah h];simp
         · rw [Ad h];simp
       · rw [Ad k3]
         by_cases k4:a.kind=4
         · rw [Ah k4]
           by_cases h:(x.2.2.get a.n).isSome=true
           · rw [Ah h];simp
           · rw [Ad h];simp
         · rw [Ad k4];simp
   have s2:∀ y,(HU a x).2.1.get y=(x.2.1.get y).or (AO (a.kind=3∧a.name=y) (some a.unit) none):=by
     intro y
     unfold HU
     by_cases k2:a.kind=2
     · rw [Ah k2,Ad (show ¬ (a.kind=3∧a.name=y) from fun q=>by omega)]
       by_cases h:(x.1.get a.name).isSome=true
       · rw [Ah h];simp
       · rw [Ad h];simp
     · rw [Ad k2]
       by_cases k3:a.kind=3
       · rw [Ah k3]
         by_cases h:(x.2.1.get a.name).isSome=true
         · rw [Ah h]
           by_cases e:a.name=y
           · subst e
             obtain ⟨v,hv⟩:=Option.isSome_iff_exists.1 h
             rw [hv];rfl
           · rw [Ad (show ¬ (a.kind=3∧a.name=y) from fun q=>e q.2)];simp
         · rw [Ad h]
           show (x.2.1.set a.name a.unit).get y=_
           rw [Mm.D9]
           by_cases e:y=a.name
           · subst e
             rw [if_pos rfl,Ah ⟨k3,rfl⟩]
             have:x.2.1.get a.name=none:=by simpa using h
             rw [this];rfl
           · rw [if_neg e,Ad (show ¬ (a.kind=3∧a.name=y) from fun q=>e q.2.symm)];simp
       · rw [Ad k3,Ad (show ¬ (a.kind=3∧a.name=y) from fun q=>k3 q.1)]
         by_cases k4:a.kind=4
         · rw [Ah k4]
           by_cases h:(x.2.2.get a.n).isSome=true
           · rw [Ah h];simp
           · rw [Ad h];simp
         · rw [Ad k4];simp
   have s3:∀ z,(HU a x).2.2.get z=(x.2.2.get z).or (AO (a.kind=4∧a.n=z) (some a.name) none):=by
     intro z
     unfold HU
     by_cases k2:a.kind=2
     · rw [Ah k2,Ad (show ¬ (a.kind=4∧a.n=z) from fun q=>by omega)]
       by_cases h:(x.1.get a.name).isSome=true
       · rw [Ah h];simp
       · rw [Ad h];simp
     · rw [Ad k2]
       by_cases k3:a.kind=3
       · rw [Ah k3,Ad (show ¬ (a.kind=4∧a.n=z) from fun q=>by omega)]
         by_cases h:(x.2.1.get a.name).isSome=true
         · rw [Ah h];simp
         · rw [Ad h];simp
       · rw [Ad k3]
         by_cases k4:a.kind=4
         · rw [Ah k4]
           by_cases h:(x.2.2.get a.n).isSome=true
           · rw [Ah h]
             by_cases e:a.n=z
             · subst e
               obtain ⟨v,hv⟩:=Option.isSome_iff_exists.1 h
               rw [hv];rfl
             · rw [Ad (show ¬ (a.kind=4∧a.n=z) from fun q=>e q.2)];simp
           · rw [Ad h]
             show (x.2.2.set a.n a.name).get z=_
             rw [Mm.D9]
             by_cases e:z=a.n
             · subst e
               rw [if_pos rfl,Ah ⟨k4,rfl⟩]
               have:x.2.2.get a.n=none:=by simpa using h
               rw [this];rfl
             · rw [if_neg e,Ad (show ¬ (a.kind=4∧a.n=z) from fun q=>e q.2.symm)];simp
         · rw [Ad k4,Ad (show ¬ (a.kind=4∧a.n=z) from fun q=>k4 q.1)];simp
   have or_if:∀ {p:Prop} {u:ByteArray} {o f:Option ByteArray},(o.or (AO p (some u) none)).or f=o.or (AO p (some u) f):=by
     intro p u o f
     by_cases h:p
     · rw [Ah h,Ah h];cases o<;>rfl
     · rw [Ad h,Ad h];cases o<;>rfl
   refine ⟨fun y=>?_,fun y=>?_,fun z=>?_⟩
   · rw [P5,h1,s1,fU,or_if]
   · rw [P5,h2,s2,fU,or_if]
   · rw [P5,h3,s3,fA,or_if]
theorem Wb (n:Nd) (x:ByteArray):(Oo n).facts.get x=fU 2 n.kids x:=by
 have:=(Ms n.kids (Mm.nil,Mm.nil,Mm.nil)).1 x
 exact this.trans (by rw [Mm.get_nil];rfl)
theorem NR (n:Nd) (x:ByteArray):(Oo n).lines.get x=fU 3 n.kids x:=by
 have:=(Ms n.kids (Mm.nil,Mm.nil,Mm.nil)).2.1 x
 exact this.trans (by rw [Mm.get_nil];rfl)
theorem Px (n:Nd) (z:Int):(Oo n).Af.get z=fA n.kids z:=by
 have:=(Ms n.kids (Mm.nil,Mm.nil,Mm.nil)).2.2 z
 exact this.trans (by rw [Mm.get_nil];rfl)
noncomputable def I2 (src e:Nd):ByteArray×List Dg:=AO ((src.kind=1∧e.kind≠1)∧NV src∧NV e) (B8 (Oo src) e []) (eS,[⟨1,e.att⟩])
theorem gX {e:Nd} (h:NV e) (hk:e.kind≠1):LV e∧C5 e≤2000∧Jo e≤40:=by
 obtain ⟨a | a,b⟩:=h
 · exact absurd a.1 hk
 · exact ⟨a.2,b⟩
theorem Uk {src e:Nd} (hs:DS src) (he:DS e):DI src e=some (I2 src e):=by
 rw [DI,PY hs,PY he,Tf hs]
 simp only [Option.bind_some,CP,C7]
 unfold I2
 by_cases k1:src.kind=1
 rotate_left
 · rw [Ad k1,Ad fun q=>k1 q.1.1]
 rw [Ah k1]
 by_cases k2:e.kind=1
 · rw [Ah k2,Ad fun q=>q.1.2 k2]
 rw [Ad k2]
 by_cases v1:NV src
 rotate_left
 · rw [Ad v1,Ad fun q=>v1 q.2.1]
 rw [Ah v1]
 by_cases v2:NV e
 rotate_left
 · rw [Ad v2,Ad fun q=>v2 q.2.2]
 rw [Ah v2,Ah ⟨⟨k1,k2⟩,v1,v2⟩]
 obtain ⟨a,b,_⟩:=gX v2 k2
 rw [show Cv=some () from rfl]
 simp only [Option.bind_some]
 rw [S9 a b]
 rfl
end Mo
end Go.Proofs.YtkfplcngmiljaaaGreatDoor
namespace Go.Proofs.YtkfplcngmiljaaaGreatDoor
open AI Go
namespace Mo
set_option maxRecDepth 100000
set_option maxHeartbeats 4000000
def cap (ds r:List Dg):List Dg:=(ds++r).take 20
theorem Gc (ds a b:List Dg):cap (cap ds a) b=cap ds (a++b):=by
 unfold cap
 rw [← List.append_assoc]
 generalize ds++a=l
 rw [List.take_append,List.take_append,List.take_take,Nat.min_self,List.length_take]
 by_cases h:l.length≤20
 · rw [Nat.min_eq_right h]
 · rw [Nat.min_eq_left (by omega),show 20 - 20=0 by omega,show 20 - l.length=0 by omega]
theorem Ey {ds:List Dg} (h:ds.length≤20):cap ds []=ds:=by
 unfold cap
 rw [List.append_nil,List.take_of_length_le h]
theorem E3 (ds r:List Dg):(cap ds r).length≤20:=by unfold cap;rw [List.length_take];omega
theorem ME {ds:List Dg} (h:ds.length≤20) (e at_:Int):KM e at_ ds=cap ds [⟨e,at_⟩]:=by
 unfold KM cap
 by_cases h2:ds.length < 20
 · rw [if_pos h2,List.take_of_length_le (by simp;omega)]
 · rw [if_neg h2,List.take_append,List.take_of_length_le h,show 20 - ds.length=0 by omega]
   simp
noncomputable def I4 (F:ByteArray→ByteArray) (A:Int→ByteArray) (n:Nd) (us:List ByteArray):ByteArray :=
 AO (n.kind=11) n.unit (AO (n.kind=12) (F n.name) (AO (n.kind=13) (A n.n) (AO (n.kind=14) CH
   (AO (n.kind=15) (II Nh us) (AO (n.kind=16) (II n.name us) (AO (n.kind=17) (II O8 us) (AO (n.kind=18) (AO (Zo (us.headD eS)) (us.headD eS) eS) eS)))))))
noncomputable def ZW (F:ByteArray→ByteArray) (A:Int→ByteArray) (n:Nd) (r:List ByteArray×List Dg):ByteArray×List Dg :=
 AO (∀ u∈r.1,u≠eS) (AO (I4 F A n r.1=eS) (I4 F A n r.1,r.2++[⟨KT n,n.att⟩]) (I4 F A n r.1,r.2)) (eS,r.2)
mutual
noncomputable def KW (F:ByteArray→ByteArray) (A:Int→ByteArray):Nd→ByteArray×List Dg
 | ⟨kind,name,unit,n,fr,to,known,tab,kids,att⟩=>ZW F A ⟨kind,name,unit,n,fr,to,known,tab,kids,att⟩ (IF F A kids)
noncomputable def IF (F:ByteArray→ByteArray) (A:Int→ByteArray):List Nd→List ByteArray×List Dg
 | []=>([],[])
 | k::ks=>((KW F A k).1::(IF F A ks).1,(KW F A k).2++(IF F A ks).2)
end
theorem R3 (F:ByteArray→ByteArray) (A:Int→ByteArray) (n:Nd):KW F A n=ZW F A n (IF F A n.kids):=by cases n;rw [KW]
theorem MH (F:ByteArray→ByteArray) (A:Int→ByteArray):∀ l:List Nd,IF F A l=(l.map fun k=>(KW F A k).1,l.flatMap fun k=>(KW F A k).2)
 | []=>by rw [IF];rfl
 | k::l=>by rw [IF,MH F A l];rfl
noncomputable def FS (s:Sc) (x:ByteArray):ByteArray:=(s.facts.get x).getD eS
noncomputable def RI (s:Sc) (z:Int):ByteArray:=(s.lines.get ((s.Af.get z).getD eS)).getD eS
theorem IT {s:Sc}:∀ {l:List Nd},(∀ k∈l,∀ ds:List Dg,ds.length≤20→B8 s k ds=((KW (FS s) (RI s) k).1,cap ds (KW (FS s) (RI s) k).2))→∀ ds:List Dg,ds.length≤20→Cw s l ds=((IF (FS s) (RI s) l).1,cap ds (IF (FS s) (RI s) l).2)
 | [],_,ds,h=>by rw [Cw,IF,Ey h]
 | a::l,hk,ds,h=>by
   rw [Cw,IF,hk a (by simp) ds h]
   dsimp only
   rw [IT (fun k h'=>hk k (by simp [h'])) _ (E3 _ _),Gc]
theorem Q3 (s:Sc):∀ (m:Nat) (n:Nd),C5 n≤m→∀ ds:List Dg,ds.length≤20→B8 s n ds=((KW (FS s) (RI s) n).1,cap ds (KW (FS s) (RI s) n).2):=by
 intro m
 induction m with
 | zero=>intro n h;have:=C9 n;omega
 | succ m ih =>
   intro n hn ds hd
   have hsz:=C9 n
   rw [OK,R3,IT (fun k hk=>ih k (by have:=Jh hk;omega)) ds hd]
   unfold cK ZW
   show AO _ (AO (I4 (FS s) (RI s) n _=eS) (I4 (FS s) (RI s) n _,_) (I4 (FS s) (RI s) n _,_)) _=_
   by_cases hu:∀ u∈(IF (FS s) (RI s) n.kids).1,u≠eS
   · rw [Ah hu,Ah hu]
     by_cases hU:I4 (FS s) (RI s) n (IF (FS s) (RI s) n.kids).1=eS
     · rw [Ah hU,Ah hU]
       dsimp only
       rw [ME (E3 _ _),Gc]
     · rw [Ad hU,Ad hU]
   · rw [Ad hu,Ad hu]
theorem U9 (s:Sc) (n:Nd) {ds:List Dg} (h:ds.length≤20):B8 s n ds=((KW (FS s) (RI s) n).1,cap ds (KW (FS s) (RI s) n).2):=Q3 s (C5 n) n (Nat.le_refl _) ds h
noncomputable def fact (src:Nd) (x:ByteArray):ByteArray:=(fU 2 src.kids x).getD eS
noncomputable def line (src:Nd) (x:ByteArray):ByteArray:=(fU 3 src.kids x).getD eS
noncomputable def nM (src:Nd) (z:Int):ByteArray:=line src ((fA src.kids z).getD eS)
theorem fS (src:Nd):FS (Oo src)=fact src:=funext fun x=>by unfold FS fact;rw [Wb]
theorem iL (src:Nd):RI (Oo src)=nM src:=funext fun z=>by unfold RI nM line;rw [NR,Px]
noncomputable def P3 (src n:Nd):ByteArray×List Dg:=KW (fact src) (nM src) n
theorem OI (src n:Nd) {ds:List Dg} (h:ds.length≤20):B8 (Oo src) n ds=((P3 src n).1,cap ds (P3 src n).2):=by
 rw [U9 _ _ h,fS,iL];rfl
theorem Li (src e:Nd):I2 src e=AO ((src.kind=1∧e.kind≠1)∧NV src∧NV e) ((P3 src e).1,cap [] (P3 src e).2) (eS,[⟨1,e.att⟩]):=by
 unfold I2
 rw [OI src e (by simp)]
noncomputable def Iv (before:List Nd) (a:Nd):List Dg :=
 AO (a.kind=2∨a.kind=3) (AO (∃ b∈before,b.kind=a.kind∧b.name=a.name) [⟨5,a.att⟩] (AO (32≤B0 a.kind before) [⟨2,a.att⟩] (AO (a.kind=3∧(a.unit=A8∨(a.n≠4∧¬ Zo a.unit))) [⟨11,a.att⟩] []))) []
noncomputable def Fi:List Nd→List Nd→List Dg
 | _,[]=>[]
 | b,a::l=>Iv b a++Fi (b++[a]) l
noncomputable def Fb (src:Nd) (c:Nat) (a:Nd):List Dg :=
 AO (60≤c) [⟨2,a.att⟩] (AO (fU 3 src.kids a.name=none) [⟨91,a.att⟩] (AO ((fA src.kids a.n).getD eS≠a.name) [⟨101,a.att⟩] []))
noncomputable def Dx (src a k:Nd):List Dg:=AO (k.n=a.n) [⟨101,k.att⟩] (AO (fA src.kids k.n=none) [⟨91,k.att⟩] [])
noncomputable def Oc (src:Nd) (w:ByteArray) (k:Nd):List Dg:=(P3 src k).2++AO ((P3 src k).1≠eS∧w≠eS∧(P3 src k).1≠w) [⟨11,k.att⟩] []
noncomputable def F8 (src a x:Nd):List Dg :=
 AO (x.kind=7) (x.kids.flatMap (Dx src a)) (x.kids.flatMap (Oc src (AO (x.kind=6) A8 (line src a.name))))
noncomputable def Wg (src:Nd) (c:Nat) (a:Nd):List Dg:=AO (a.kind=4) (Fb src c a++a.kids.tail.flatMap (F8 src a)) []
noncomputable def Jw (src:Nd):Nat→List Nd→List Dg
 | _,[]=>[]
 | c,a::l=>Wg src c a++Jw src (c+B0 4 [a]) l
noncomputable def PM (src:Nd):List Dg:=Fi [] src.kids++Jw src 0 src.kids
noncomputable def JY (src:Nd):List Dg:=AO (src.kind=1∧NV src) (cap [] (PM src)) [⟨1,0⟩]
end Mo
end Go.Proofs.YtkfplcngmiljaaaGreatDoor

namespace Go.Proofs.YtkfplcngmiljaaaGreatDoor
open AI Go
namespace Mo
set_option maxRecDepth 100000
set_option maxHeartbeats 4000000
theorem Ng (k:Int) (l m:List Nd):B0 k (l++m)=B0 k l+B0 k m:=by
 induction l with
 | nil=>simp [B0]
 | cons a l ih=>simp only [List.cons_append,B0,ih];omega
theorem KG {ds:List Dg} (h:ds.length≤20) (e at_:Int):Aj e at_ ds=some ((),cap ds [⟨e,at_⟩]):=by rw [Qu,ME h]
structure Pk (b:List Nd) (w5:Mm ByteArray Bool) (w2:Mm Int Int) (w4:Mm ByteArray Bool):Prop where
 lines:∀ x,((w5.get x).getD false=true)↔∃ a∈b,a.kind=3∧a.name=x
 facts:∀ x,((w4.get x).getD false=true)↔∃ a∈b,a.kind=2∧a.name=x
 Mi:∀ k,k=2∨k=3→(w2.get k).getD 0=((B0 k b:Nat):Int)
theorem Xx:Pk [] Mm.nil Mm.nil Mm.nil:=⟨fun x=>by simp [Mm.get_nil],fun x=>by simp [Mm.get_nil],fun k _=>by simp [Mm.get_nil,B0]⟩
theorem Vr {b:List Nd} {w5:Mm ByteArray Bool} {w2:Mm Int Int} {w4:Mm ByteArray Bool} (h:Pk b w5 w2 w4) {a:Nd} (ha:a.kind=4):Pk (b++[a]) w5 w2 w4:=by
 refine ⟨fun x=>(h.lines x).trans ?_,fun x=>(h.facts x).trans ?_,fun k hk=>(h.Mi k hk).trans ?_⟩
 · simp only [List.mem_append,List.mem_singleton]
   constructor
   · rintro ⟨c,hc,e⟩;exact ⟨c,.inl hc,e⟩
   · rintro ⟨c,hc | rfl,e⟩
     · exact ⟨c,hc,e⟩
     · omega
 · simp only [List.mem_append,List.mem_singleton]
   constructor
   · rintro ⟨c,hc,e⟩;exact ⟨c,.inl hc,e⟩
   · rintro ⟨c,hc | rfl,e⟩
     · exact ⟨c,hc,e⟩
     · omega
 · rw [Ng]
   simp only [B0]
   rw [if_neg (by omega)]
   simp
theorem Uw {b:List Nd} {w5:Mm ByteArray Bool} {w2:Mm Int Int} {w4:Mm ByteArray Bool} (h:Pk b w5 w2 w4) {a:Nd} (ha:a.kind=3) (hb:b.length < 9223372036854775807):Pk (b++[a]) (w5.set a.name true) (w2.set a.kind (Bz ((w2.get a.kind).getD 0) 1)) w4:=by
 have hc:=Ml 3 b
 refine ⟨fun x=>?_,fun x=>(h.facts x).trans ?_,fun k hk=>?_⟩
 · rw [Mm.D9]
   simp only [List.mem_append,List.mem_singleton]
   by_cases e:x=a.name
   · rw [if_pos e]
     exact ⟨fun _=>⟨a,.inr rfl,ha,e.symm⟩,fun _=>rfl⟩
   · rw [if_neg e,h.lines x]
     constructor
     · rintro ⟨c,hc,q⟩;exact ⟨c,.inl hc,q⟩
     · rintro ⟨c,hc | rfl,q⟩
       · exact ⟨c,hc,q⟩
       · exact absurd q.2.symm e
 · simp only [List.mem_append,List.mem_singleton]
   constructor
   · rintro ⟨c,hc,e⟩;exact ⟨c,.inl hc,e⟩
   · rintro ⟨c,hc | rfl,e⟩
     · exact ⟨c,hc,e⟩
     · omega
 · rw [Mm.D9,ha,Ng]
   simp only [B0,ha]
   rcases hk with rfl | rfl
   · rw [if_neg (by decide),h.Mi 2 (.inl rfl),if_neg (by decide)];simp
   · rw [if_pos rfl,h.Mi 3 (.inr rfl),if_pos rfl]
     simp only [Option.getD_some]
     rw [CT (by omega)];omega
theorem Uz {b:List Nd} {w5:Mm ByteArray Bool} {w2:Mm Int Int} {w4:Mm ByteArray Bool} (h:Pk b w5 w2 w4) {a:Nd} (ha:a.kind=2) (hb:b.length < 9223372036854775807):Pk (b++[a]) w5 (w2.set a.kind (Bz ((w2.get a.kind).getD 0) 1)) (w4.set a.name true):=by
 have hc:=Ml 2 b
 refine ⟨fun x=>(h.lines x).trans ?_,fun x=>?_,fun k hk=>?_⟩
 · simp only [List.mem_append,List.mem_singleton]
   constructor
   · rintro ⟨c,hc,e⟩;exact ⟨c,.inl hc,e⟩
   · rintro ⟨c,hc | rfl,e⟩
     · exact ⟨c,hc,e⟩
     · omega
 · rw [Mm.D9]
   simp only [List.mem_append,List.mem_singleton]
   by_cases e:x=a.name
   · rw [if_pos e]
     exact ⟨fun _=>⟨a,.inr rfl,ha,e.symm⟩,fun _=>rfl⟩
   · rw [if_neg e,h.facts x]
     constructor
     · rintro ⟨c,hc,q⟩;exact ⟨c,.inl hc,q⟩
     · rintro ⟨c,hc | rfl,q⟩
       · exact ⟨c,hc,q⟩
       · exact absurd q.2.symm e
 · rw [Mm.D9,ha,Ng]
   simp only [B0,ha]
   rcases hk with rfl | rfl
   · rw [if_pos rfl,h.Mi 2 (.inl rfl),if_pos rfl]
     simp only [Option.getD_some]
     rw [CT (by omega)];omega
   · rw [if_neg (by decide),h.Mi 3 (.inr rfl),if_neg (by decide)];simp
theorem Mz:∀ {l b:List Nd} {i:Nat} {w5:Mm ByteArray Bool} {w2:Mm Int Int} {w4:Mm ByteArray Bool} {ds:List Dg},Pk b w5 w2 w4→(∀ a∈l,a.kind=2∨a.kind=3∨a.kind=4)→b.length+l.length≤9223372036854775807→ds.length≤20 →
   ∃ x5 x2 x4,A2 (fun i y x=>Bd i y x.1 x.2.1 x.2.2.1 x.2.2.2) (fun x=>(x.1,x.2.1,x.2.2.1,x.2.2.2)) l i (w5,w2,ds,w4)=(some (.inl (x5,x2,cap ds (Fi b l),x4)):Option ((Mm ByteArray Bool×Mm Int Int×List Dg×Mm ByteArray Bool)⊕(Unit×List Dg)))
 | [],b,i,w5,w2,w4,ds,_,_,_,hd=>⟨w5,w2,w4,by rw [Fi,Ey hd];rfl⟩
 | a::l,b,i,w5,w2,w4,ds,hI,hk,hl,hd=>by
   simp only [List.length_cons] at hl
   have next:∀ {x5:Mm ByteArray Bool} {x2:Mm Int Int} {x4:Mm ByteArray Bool} {d2:List Dg},Pk (b++[a]) x5 x2 x4→d2=cap ds (Iv b a) →
       ∃ y5 y2 y4,(some (Lp.nx (x5,x2,d2,x4))).bind (Gs (A2 (fun i y x=>Bd i y x.1 x.2.1 x.2.2.1 x.2.2.2) (fun x=>(x.1,x.2.1,x.2.2.1,x.2.2.2)) l (i+1)))=(some (.inl (y5,y2,cap ds (Fi b (a::l)),y4)):Option ((Mm ByteArray Bool×Mm Int Int×List Dg×Mm ByteArray Bool)⊕(Unit×List Dg))):=by
     rintro x5 x2 x4 d2 h rfl
     obtain ⟨y5,y2,y4,e⟩:=Mz (l:=l) (b:=b++[a]) (i:=i+1) (w5:=x5) (w2:=x2) (w4:=x4) (ds:=cap ds (Iv b a)) h (fun k hk'=>hk k (by simp [hk'])) (by simp;omega) (E3 _ _)
     exact ⟨y5,y2,y4,by rw [Fi,← Gc];exact e⟩
   rw [A2,Bd]
   simp only [CP,E6,D3,Qc,KG hd,Option.bind_some,qB,ED]
   rcases hk a (by simp) with k2 | k3 | k4
   · rw [Ad (by omega),Ad (by omega),Ah k2]
     have hI':=Uz hI k2 (by omega)
     have ed:∀ {x y:List Dg},Iv b a=AO (∃ c∈b,c.kind=2∧c.name=a.name) [⟨5,a.att⟩] (AO (32≤B0 2 b) [⟨2,a.att⟩] []):=by
       intro _ _
       unfold Iv
       rw [Ah (.inl k2),k2]
       congr 2
       exact Ad fun q=>by omega
     by_cases h5:((w4.get a.name).getD false=true)
     · rw [Ah h5]
       refine next hI' ?_
       rw [ed (x:=[]) (y:=[]),Ah ((hI.facts _).1 h5)]
     · rw [Ad h5]
       have hn:=fun q=>h5 ((hI.facts _).2 q)
       rw [Mm.D9,if_pos rfl,k2,hI.Mi 2 (.inl rfl)]
       simp only [Option.getD_some]
       have hc:=Ml 2 b
       rw [CT (by omega)]
       by_cases h32:32≤B0 2 b
       · rw [Ah (by omega)]
         rw [k2,hI.Mi 2 (.inl rfl),CT (by omega)] at hI'
         refine next hI' ?_
         rw [ed (x:=[]) (y:=[]),Ad hn,Ah h32]
       · rw [Ad (by omega)]
         rw [k2,hI.Mi 2 (.inl rfl),CT (by omega)] at hI'
         refine next hI' ?_
         rw [ed (x:=[]) (y:=[]),Ad hn,Ad h32,Ey hd]
   · rw [Ad (by omega),Ah k3]
     have hI':=Uw hI k3 (by omega)
     have ed:∀ {x y:List Dg},Iv b a=AO (∃ c∈b,c.kind=3∧c.name=a.name) [⟨5,a.att⟩] (AO (32≤B0 3 b) [⟨2,a.att⟩] (AO (a.unit=A8∨(a.n≠4∧¬ Zo a.unit)) [⟨11,a.att⟩] [])):=by
       intro _ _
       unfold Iv
       rw [Ah (.inr k3),k3]
       simp only [true_and]
     by_cases h5:((w5.get a.name).getD false=true)
     · rw [Ah h5]
       refine next hI' ?_
       rw [ed (x:=[]) (y:=[]),Ah ((hI.lines _).1 h5)]
     · rw [Ad h5]
       have hn:=fun q=>h5 ((hI.lines _).2 q)
       rw [Mm.D9,if_pos rfl,k3,hI.Mi 3 (.inr rfl)]
       simp only [Option.getD_some]
       have hc:=Ml 3 b
       rw [CT (by omega)]
       rw [k3,hI.Mi 3 (.inr rfl),CT (by omega)] at hI'
       by_cases h32:32≤B0 3 b
       · rw [Ah (by omega)]
         refine next hI' ?_
         rw [ed (x:=[]) (y:=[]),Ad hn,Ah h32]
       · rw [Ad (by omega)]
         by_cases ht:a.unit=A8
         · rw [Ah ht]
           refine next hI' ?_
           rw [ed (x:=[]) (y:=[]),Ad hn,Ad h32,Ah (.inl ht)]
         · rw [Ad ht]
           by_cases h4:a.n=4
           · rw [Ah h4]
             refine next hI' ?_
             rw [ed (x:=[]) (y:=[]),Ad hn,Ad h32,Ad (fun q=>q.elim ht fun r=>r.1 h4),Ey hd]
           · rw [Ad h4]
             by_cases hc2:Zo a.unit
             · rw [Ah hc2]
               refine next hI' ?_
               rw [ed (x:=[]) (y:=[]),Ad hn,Ad h32,Ad (fun q=>q.elim ht fun r=>r.2 hc2),Ey hd]
             · rw [Ad hc2]
               refine next hI' ?_
               rw [ed (x:=[]) (y:=[]),Ad hn,Ad h32,Ah (.inr ⟨h4,hc2⟩)]
   · rw [Ah k4]
     refine next (Vr hI k4) ?_
     have:Iv b a=[]:=by unfold Iv;rw [Ad (by omega)]
     rw [this,Ey hd]
theorem bF {n:Nd} (hok:DS n) (hk:∀ a∈n.kids,a.kind=2∨a.kind=3∨a.kind=4):Bu n []=some ((),cap [] (Fi [] n.kids)):=by
 obtain ⟨hps,hkl,hks⟩:=Gw hok
 obtain ⟨x5,x2,x4,e⟩:=Mz (l:=n.kids) (b:=[]) (i:=0) (ds:=[]) Xx hk (by simp;omega) (by simp)
 rw [Bu,EA hkl,List.drop_zero,e]
 rfl
theorem LH {src a:Nd}:∀ {l:List Nd} {i:Nat} {ds:List Dg},ds.length≤20→A2 (fun i y x=>Be (Oo src) a i y x) (fun x=>x) l i ds=(some (.inl (cap ds (l.flatMap (Dx src a)))):Option (List Dg⊕(Unit×List Dg)))
 | [],i,ds,hd=>by rw [List.flatMap_nil,Ey hd];rfl
 | k::l,i,ds,hd=>by
   rw [A2,Be,List.flatMap_cons,← Gc]
   simp only [CP,KG hd,Option.bind_some,qB,ED,Px]
   have next:∀ {d2:List Dg},d2=cap ds (Dx src a k)→(some (Lp.nx d2)).bind (Gs (A2 (fun i y x=>Be (Oo src) a i y x) (fun x=>x) l (i+1)))=(some (.inl (cap (cap ds (Dx src a k)) (l.flatMap (Dx src a)))):Option (List Dg⊕(Unit×List Dg))):=by
     rintro _ rfl
     exact LH (E3 _ _)
   unfold Dx
   by_cases h:k.n=a.n
   · rw [Ah h]
     have:=next (d2:=cap ds [⟨101,k.att⟩]) (by unfold Dx;rw [Ah h])
     unfold Dx at this
     rw [Ah h] at this ⊢
     exact this
   · rw [Ad h]
     by_cases h2:(fA src.kids k.n).isSome=true
     · rw [Ah h2]
       have hn:¬ fA src.kids k.n=none:=fun e=>by rw [e] at h2;cases h2
       have:=next (d2:=ds) (by unfold Dx;rw [Ad h,Ad hn,Ey hd])
       unfold Dx at this
       rw [Ad h] at this ⊢
       exact this
     · rw [Ad h2]
       have hn:fA src.kids k.n=none:=by simpa using h2
       have:=next (d2:=cap ds [⟨91,k.att⟩]) (by unfold Dx;rw [Ad h,Ah hn])
       unfold Dx at this
       rw [Ad h] at this ⊢
       exact this
theorem W5 {src a x:Nd} (hok:DS x) (hc:Eu x) (hs:C5 x≤2000) (h68:x.kind=6∨x.kind=7∨x.kind=8) {ds:List Dg} (hd:ds.length≤20):AK (Oo src) a x ds=some ((),cap ds (F8 src a x)):=by
 obtain ⟨hps,hkl,hks⟩:=Gw hok
 rw [AK]
 simp only [CP,D3,qB,ED,NR]
 unfold F8
 by_cases k7:x.kind=7
 · rw [Ah k7,Ah k7,EA hkl,List.drop_zero,LH hd];rfl
 rw [Ad k7,Ad k7]
 obtain ⟨h1,h2⟩:=hc.2.2 k7
 have hsz:=C9 x
 generalize x.kids=ks at *
 match ks,h1 with
 | [k],_ =>
 have hek:=h2 k (by simp)
 have hsk:C5 k≤2000:=by simp [E8] at hsz;omega
 simp only [List.getElem?_cons_zero,Option.bind_some,List.flatMap_cons,List.flatMap_nil,List.append_nil]
 rw [S9 hek hsk,OI src k hd]
 simp only [Option.bind_some]
 rw [KG (E3 _ _)]
 simp only [Option.bind_some,Gc]
 have key:∀ w:ByteArray,AO ((P3 src k).1=ByteArray.empty) (some ((),cap ds (P3 src k).2)) (AO (w=ByteArray.empty) (some ((),cap ds (P3 src k).2)) (AO ((P3 src k).1=w) (some ((),cap ds (P3 src k).2)) (some ((),cap ds ((P3 src k).2++[⟨11,k.att⟩])))))=some ((),cap ds (Oc src w k)):=by
   intro w
   unfold Oc
   by_cases a1:(P3 src k).1=eS
   · rw [Ah a1,Ad fun q=>q.1 a1,List.append_nil]
   rw [Ad a1]
   by_cases a2:w=eS
   · rw [Ah a2,Ad fun q=>q.2.1 a2,List.append_nil]
   rw [Ad a2]
   by_cases a3:(P3 src k).1=w
   · rw [Ah a3,Ad fun q=>q.2.2 a3,List.append_nil]
   rw [Ad a3,Ah ⟨a1,a2,a3⟩]
 by_cases k6:x.kind=6
 · rw [Ah k6,Ah k6];exact key A8
 · rw [Ad k6,Ad k6];exact key (line src a.name)
theorem KH {src a:Nd} {body:Nat→Nd→List Dg→Option (Lp (List Dg) (List Dg) (List Dg))} (hb:∀ i y x,body i y x=(AK (Oo src) a y x).bind fun (_,b)=>some (.nx b)) :
   ∀ {l:List Nd} {i:Nat} {ds:List Dg},(∀ x∈l,DS x∧Eu x∧C5 x≤2000∧(x.kind=6∨x.kind=7∨x.kind=8))→ds.length≤20→A2 body (fun x=>x) l i ds=(some (.inl (cap ds (l.flatMap (F8 src a)))):Option (List Dg⊕List Dg))
 | [],i,ds,_,hd=>by rw [List.flatMap_nil,Ey hd];rfl
 | x::l,i,ds,h,hd=>by
   obtain ⟨h1,h2,h3,h4⟩:=h x (by simp)
   rw [A2,hb,W5 h1 h2 h3 h4 hd,List.flatMap_cons,← Gc]
   exact KH hb (fun y hy=>h y (by simp [hy])) (E3 _ _)
theorem Lq {src:Nd}:∀ {l:List Nd} {i:Nat} {c:Nat} {ds:List Dg},(∀ a∈l,DS a∧Fa a∧C5 a≤2000)→c+l.length≤9223372036854775807→ds.length≤20→∃ z,A2 (fun i y x=>Dj (Oo src) i y x.1 x.2) (fun x=>x.2) l i (((c:Nat):Int),ds)=(some (.inl z):Option (List Dg⊕List Dg))∧z=cap ds (Jw src c l)
 | [],i,c,ds,_,_,hd=>⟨ds,rfl,by rw [Jw,Ey hd]⟩
 | a::l,i,c,ds,h,hc,hd=>by
   simp only [List.length_cons] at hc
   obtain ⟨hok,hit,hsz⟩:=h a (by simp)
   obtain ⟨hps,hkl,hks⟩:=Gw hok
   rw [A2,Dj,Jw,← Gc]
   simp only [CP,E6,D3,qB,ED,KG hd,Option.bind_some,NR,Px]
   unfold Wg
   by_cases k4:a.kind=4
   rotate_left
   · rw [Ad k4,Ad k4,Ey hd]
     have e:c+B0 4 [a]=c:=by simp [B0,k4]
     rw [e]
     exact Lq (fun y hy=>h y (by simp [hy])) (by omega) hd
   rw [Ah k4,Ah k4]
   obtain ⟨_,_,_,x,cs,hkids,hkin,_,_,_,hcl⟩:=(xE k4).1 hit
   have e:c+B0 4 [a]=c+1:=by simp [B0,k4]
   rw [e]
   have hcs:∀ y∈cs,DS y∧Eu y∧C5 y≤2000∧(y.kind=6∨y.kind=7∨y.kind=8):=by
     intro y hy
     have hm:y∈a.kids:=by rw [hkids];simp [hy]
     have:=hkin y hy
     exact ⟨hks y hm,hcl y hy,by have:=Mn hm;omega,by omega⟩
   have hsub:LS a.kids 1 ((a.kids.length:Nat):Int)=some cs:=by
     unfold LS
     rw [hkids,if_pos (by simp only [List.length_cons];omega)]
     simp
   have hcl':cs.length≤9223372036854775807:=by rw [hkids] at hkl;simp at hkl;omega
   rw [hsub]
   simp only [Option.bind_some,List.drop_zero,EA hcl']
   rw [CT (by omega)]
   have htail:a.kids.tail=cs:=by rw [hkids];rfl
   rw [htail]
   have next:∀ {body:Nat→Nd→List Dg→Option (Lp (List Dg) (List Dg) (List Dg))} {d0:List Dg},(∀ i y x,body i y x=(AK (Oo src) a y x).bind fun (_,b)=>some (.nx b))→d0=cap ds (Fb src c a) →
       ∃ z,(((A2 body (fun x=>x) cs 0 d0).bind (JA (fun (w:List Dg)=>some (Lp.nx (((c:Nat):Int)+1,w))) (fun v=>some (.rt v)))).bind (Gs (A2 (fun i y x=>Dj (Oo src) i y x.1 x.2) (fun x=>x.2) l (i+1))))=(some (.inl z):Option (List Dg⊕List Dg))∧z=cap (cap ds (Fb src c a++cs.flatMap (F8 src a))) (Jw src (c+1) l):=by
     rintro body _ hb rfl
     rw [KH hb hcs (E3 _ _),Gc]
     have ih:=Lq (src:=src) (l:=l) (i:=i+1) (c:=c+1) (ds:=cap ds (Fb src c a++cs.flatMap (F8 src a))) (fun y hy=>h y (by simp [hy])) (by omega) (E3 _ _)
     rw [show (((c+1:Nat)):Int)=((c:Nat):Int)+1 by omega] at ih
     exact ih
   unfold Fb
   by_cases hl:(fU 3 src.kids a.name).isSome=true
   · have hn:¬ fU 3 src.kids a.name=none:=fun e=>by rw [e] at hl;cases hl
     rw [Ah hl]
     by_cases h60:60≤c
     · rw [Ah (by omega),Ah h60]
       have:=next (body:=fun i y x=>E7 (Oo src) a i y x) (d0:=cap ds [⟨2,a.att⟩]) (fun i y x=>rfl) (by unfold Fb;rw [Ah h60])
       unfold Fb at this
       rw [Ah h60] at this
       exact this
     · rw [Ad (by omega),Ad h60,Ad hn]
       by_cases hA:(fA src.kids a.n).getD ByteArray.empty=a.name
       · rw [Ah hA]
         have:=next (body:=fun i y x=>EX (Oo src) a i y x) (d0:=ds) (fun i y x=>rfl) (by unfold Fb;rw [Ad h60,Ad hn,Ad (fun q=>q hA),Ey hd])
         unfold Fb at this
         rw [Ad h60,Ad hn] at this
         exact this
       · rw [Ad hA]
         have:=next (body:=fun i y x=>EO (Oo src) a i y x) (d0:=cap ds [⟨101,a.att⟩]) (fun i y x=>rfl) (by unfold Fb;rw [Ad h60,Ad hn,Ah hA])
         unfold Fb at this
         rw [Ad h60,Ad hn] at this
         exact this
   · have hn:fU 3 src.kids a.name=none:=by simpa using hl
     rw [Ad hl]
     by_cases h60:60≤c
     · rw [Ah (by omega),Ah h60]
       have:=next (body:=fun i y x=>ET (Oo src) a i y x) (d0:=cap ds [⟨2,a.att⟩]) (fun i y x=>rfl) (by unfold Fb;rw [Ah h60])
       unfold Fb at this
       rw [Ah h60] at this
       exact this
     · rw [Ad (by omega),Ad h60,Ah hn]
       have:=next (body:=fun i y x=>EQ (Oo src) a i y x) (d0:=cap ds [⟨91,a.att⟩]) (fun i y x=>rfl) (by unfold Fb;rw [Ad h60,Ah hn])
       unfold Fb at this
       rw [Ad h60,Ah hn] at this
       exact this
theorem Y2 {n:Nd} (h:NV n) (hk:n.kind=1):CF n z0∧(∀ k∈n.kids,Fa k)∧C5 n≤2000∧Jo n≤40:=by
 obtain ⟨a | a,b⟩:=h
 · exact ⟨a.2.1,a.2.2,b⟩
 · exact absurd hk a.1
theorem T3 {src:Nd} (hs:DS src):DJ src=some (JY src):=by
 obtain ⟨hps,hkl,hks⟩:=Gw hs
 rw [DJ,PY hs,Tf hs]
 simp only [Option.bind_some,CP,C7]
 unfold JY
 by_cases k1:src.kind=1
 rotate_left
 · rw [Ad k1,Ad fun q=>k1 q.1]
 rw [Ah k1]
 by_cases v:NV src
 rotate_left
 · rw [Ad v,Ad fun q=>v q.2]
 rw [Ah v,Ah ⟨k1,v⟩]
 obtain ⟨_,hit,hsz,_⟩:=Y2 v k1
 have hkind:∀ a∈src.kids,a.kind=2∨a.kind=3∨a.kind=4:=fun a ha=>Tn (hit a ha)
 rw [show Cv=some () from rfl,bF hs hkind]
 simp only [Option.bind_some]
 rw [EA hkl,List.drop_zero]
 obtain ⟨z,e,rfl⟩:=Lq (src:=src) (l:=src.kids) (i:=0) (c:=0) (ds:=cap [] (Fi [] src.kids)) (fun a ha=>⟨hks a ha,hit a ha,by have:=Mn ha;omega⟩) (by omega) (E3 _ _)
 have e':(((0:Nat):Int))=0:=rfl
 rw [e'] at e
 rw [e,Gc]
 rfl
end Mo
end Go.Proofs.YtkfplcngmiljaaaGreatDoor
namespace Go.Proofs.YtkfplcngmiljaaaGreatDoor
open AI Go
namespace Mo
set_option maxRecDepth 100000
set_option maxHeartbeats 4000000
theorem TG (l m:List Nd):E8 (l++m)=E8 l+E8 m:=by
 induction l with
 | nil=>simp [E8]
 | cons a l ih=>simp only [List.cons_append,E8,ih];omega
theorem Ww {l:List Nd} {i:Nat} {y:Nd} (h:l[i]?=some y):E8 (l.take (i+1))=E8 (l.take i)+C5 y:=by
 rw [List.take_add_one,h,TG];simp [E8]
theorem XQ (l:List Nd) (i:Nat):E8 (l.take i)≤E8 l:=by
 have:=TG (l.take i) (l.drop i)
 rw [List.take_append_drop] at this
 omega
theorem qH:∀ (n:Nat) (e:Nd) (l:Int),DS e→C5 e≤n→l≤1000000→CI n e l=some (max 0 (min ((C5 e:Nat):Int) l)):=by
 intro n
 induction n with
 | zero=>intro e l _ h;have:=C9 e;omega
 | succ n ih =>
   intro e l hok hn hl
   obtain ⟨_,hk,hks⟩:=Gw hok
   have hp:=C9 e
   rw [CI,Fv,WV]
   simp only [Io,C7,R2,Kt]
   refine ⟨fun h=>by omega,fun h=>?_⟩
   refine Zh (fun i x=>x=min (((1+E8 (e.kids.take i):Nat)):Int) l) hk (by simp [E8];omega) (fun i y x hy hx=>?_) (fun x hx=>?_)
   · have hm:=List.mem_of_getElem? hy
     have h1:=Ww hy
     have h2:=XQ e.kids (i+1)
     have h3:=Mn hm
     simp only [EZ,E6,C7,R2,Ui,Kt,r4,qK]
     refine ⟨fun h4=>?_,fun h4=>by omega⟩
     rw [Mp (by omega),ih y (l - x) (hks y hm) (by omega) (by omega),Kt,CT (by omega)]
     omega
   · rw [List.take_length] at hx
     rw [Kt];omega
theorem dJ (e:Nd) (l:Int) (h:DS e) (hl:0≤l∧l < 1000000):EK e l=some (mb (((C5 e:Nat):Int)≤l)):=by
 have hc:G8 e (l+1)=some (max 0 (min ((C5 e:Nat):Int) (l+1))):=RZ (C5 e) fun n hn=>qH n e (l+1) h hn (by omega)
 rw [EK,CT (by omega),hc,WV]
 simp only [Io,C7,R2,Kt,Ui,RL,LK]
 omega
end Mo
end Go.Proofs.YtkfplcngmiljaaaGreatDoor
namespace Go.Proofs.YtkfplcngmiljaaaGreatDoor
open AI Go
namespace Mo
set_option maxRecDepth 100000
set_option maxHeartbeats 4000000
section
variable (n:Nd)
theorem Cs:(Ci n).kind=n.kind:=by rw [E4]
theorem Ew:(Ci n).name=n.name:=by rw [E4]
theorem Is:(Ci n).unit=n.unit:=by rw [E4]
theorem L3:(Ci n).n=n.n:=by rw [E4]
theorem dX:(Ci n).fr=n.fr:=by rw [E4]
theorem dO:(Ci n).to=n.to:=by rw [E4]
theorem QF:(Ci n).known=n.known:=by rw [E4]
theorem WK:(Ci n).tab=n.tab:=by rw [E4]
theorem CS:(Ci n).kids=n.kids.map Ci:=by rw [E4]
theorem K4:(Ci n).att=0:=by rw [E4]
end
theorem WN:∀ {l:List Nd},(∀ k∈l,C5 (Ci k)=C5 k∧Jo (Ci k)=Jo k)→E8 (l.map Ci)=E8 l∧Vy (l.map Ci)=Vy l
 | [],_=>⟨rfl,rfl⟩
 | a::l,h=>by
   obtain ⟨h1,h2⟩:=h a (by simp)
   obtain ⟨h3,h4⟩:=WN (l:=l) fun k hk=>h k (by simp [hk])
   simp only [List.map_cons,E8,Vy,h1,h2,h3,h4,and_self]
theorem jQ {p:Nd→Prop} (h:∀ n,(∀ k∈n.kids,p k)→p n):∀ (m:Nat) (n:Nd),C5 n≤m→p n:=by
 intro m
 induction m with
 | zero=>intro n h;have:=C9 n;omega
 | succ m ih =>
   intro n hn
   have hsz:=C9 n
   exact h n fun k hk=>ih k (by have:=Jh hk;omega)
theorem MJ {p:Nd→Prop} (h:∀ n,(∀ k∈n.kids,p k)→p n) (n:Nd):p n:=jQ h (C5 n) n (Nat.le_refl _)
theorem c6 (n:Nd):C5 (Ci n)=C5 n∧Jo (Ci n)=Jo n:=by
 refine MJ (p:=fun n=>C5 (Ci n)=C5 n∧Jo (Ci n)=Jo n) (fun n ih=>?_) n
 obtain ⟨h1,h2⟩:=WN (l:=n.kids) ih
 rw [C9 (Ci n),H6 (Ci n),H6 n,C9 n,CS,h1,h2]
 exact ⟨rfl,rfl⟩
theorem Xd {n:Nd}:DS n→DS (Ci n):=by
 refine MJ (p:=fun n=>DS n→DS (Ci n)) (fun n ih hok=>?_) n
 obtain ⟨p1,p2,p3⟩:=(M5 n).1 hok
 rw [E4]
 refine (M5 _).2 ⟨p1,by simpa using p2,fun y hy=>?_⟩
 obtain ⟨k,hk,rfl⟩:=List.mem_map.1 hy
 exact ih k hk (p3 k hk)
theorem pT {n:Nd} {i:Nat} {q:Nd→Prop} (hq:∀ k,q (Ci k)↔q k):(∀ k,(Ci n).kids[i]?=some k→q k)↔∀ k,n.kids[i]?=some k→q k:=by
 rw [CS]
 constructor
 · intro h k hk
   exact (hq k).1 (h _ (by rw [List.getElem?_map,hk];rfl))
 · intro h k hk
   rw [List.getElem?_map] at hk
   obtain ⟨y,hy,rfl⟩:=Option.map_eq_some_iff.1 hk
   exact (hq y).2 (h y hy)
theorem JS {l:List Nd} {q:Nd→Prop} (hq:∀ k∈l,q (Ci k)↔q k):(∀ k∈l.map Ci,q k)↔∀ k∈l,q k:=by
 constructor
 · intro h k hk
   exact (hq k hk).1 (h _ (List.mem_map_of_mem hk))
 · intro h k hk
   obtain ⟨y,hy,rfl⟩:=List.mem_map.1 hk
   exact (hq y hy).2 (h y hy)
theorem Yw (k:Nd):Kc (Ci k)↔Kc k:=by unfold Kc;rw [Cs,Is,L3]
theorem I9 (n f:Nd):CF (Ci n) f↔CF n f:=by unfold CF;rw [Ew,Is,L3,dX,dO,QF,WK]
theorem kE (n:Nd):JI (Ci n)↔JI n:=by
 unfold JI
 rw [pT Yw]
 simp only [I9,Cs,Is,L3,Ew,WK,CS,List.length_map]
theorem Sr (n:Nd):LV (Ci n)↔LV n:=by
 refine MJ (p:=fun n=>LV (Ci n)↔LV n) (fun n ih=>?_) n
 rw [Mc,Mc,kE,CS,JS ih]
theorem H5 (k:Int):∀ l:List Nd,B0 k (l.map Ci)=B0 k l
 | []=>rfl
 | a::l=>by rw [List.map_cons,B0,B0,Cs,H5 k l]
theorem OW (x:Nd):Eu (Ci x)↔Eu x:=by
 unfold Eu
 rw [I9,Cs,CS,List.length_map,JS (fun k _=>and_congr (Sr k) (Yw k)),JS (fun k _=>Sr k)]
theorem Tj (x:Nd):KQ (Ci x)↔KQ x:=by
 unfold KQ
 simp only [I9,Cs,L3,dX,dO,QF,CS,List.length_map]
theorem lI (n:Nd):UT (Ci n)↔UT n:=by
 unfold UT
 rw [I9,Ew,L3,CS]
 refine and_congr_right fun _=>and_congr_right fun _=>and_congr_right fun _=>?_
 cases n.kids with
 | nil=>exact ⟨fun ⟨h,cs,e,_⟩=>(nomatch e),fun ⟨h,cs,e,_⟩=>(nomatch e)⟩
 | cons a l =>
   have hk:kinds (l.map Ci)↔kinds l:=by unfold kinds;exact JS fun k _=>by rw [Cs]
   constructor
   · rintro ⟨h,cs,e,h1,h2,h3,h4,h5⟩
     rw [List.map_cons] at e
     cases e
     exact ⟨a,l,rfl,hk.1 h1,by rwa [H5] at h2,by rwa [H5] at h3,(Tj a).1 h4,(JS fun k _=>OW k).1 h5⟩
   · rintro ⟨h,cs,e,h1,h2,h3,h4,h5⟩
     cases e
     exact ⟨Ci a,l.map Ci,rfl,hk.2 h1,by rwa [H5],by rwa [H5],(Tj a).2 h4,(JS fun k _=>OW k).2 h5⟩
theorem bV (n:Nd):Fa (Ci n)↔Fa n:=by
 unfold Fa
 rw [lI]
 simp only [I9,Cs,L3,Ew,Is,CS,List.length_map]
theorem SZ (n:Nd):NV (Ci n)↔NV n:=by
 unfold NV
 rw [I9,Cs,Sr,(c6 n).1,(c6 n).2,CS,JS fun k _=>bV k]
def Nc (d:Dg):Dg:=⟨d.err,0⟩
theorem ND {p:Prop} {x y:List Dg}:(AO p x y).map Nc=AO p (x.map Nc) (y.map Nc):=by
 by_cases h:p
 · rw [Ah h,Ah h]
 · rw [Ad h,Ad h]
theorem Tz (e at_:Int):[(⟨e,at_⟩:Dg)].map Nc=[⟨e,0⟩]:=rfl
theorem MT {α:Type} {f g:α→List Dg}:∀ {l:List α},(∀ a∈l,f a=(g a).map Nc)→l.flatMap f=(l.flatMap g).map Nc
 | [],_=>rfl
 | a::l,k=>by rw [List.flatMap_cons,List.flatMap_cons,k a (by simp),MT fun b hb=>k b (by simp [hb]),List.map_append]
theorem aX {F:ByteArray→ByteArray} {A:Int→ByteArray} (n:Nd) (us:List ByteArray):I4 F A (Ci n) us=I4 F A n us:=by
 unfold I4
 rw [Cs,Is,Ew,L3]
theorem p6 (F:ByteArray→ByteArray) (A:Int→ByteArray) (n:Nd):KW F A (Ci n)=((KW F A n).1,(KW F A n).2.map Nc):=by
 refine MJ (p:=fun n=>KW F A (Ci n)=((KW F A n).1,(KW F A n).2.map Nc)) (fun n ih=>?_) n
 have hl:IF F A (n.kids.map Ci)=((IF F A n.kids).1,(IF F A n.kids).2.map Nc):=by
   rw [MH,MH,List.map_map,List.flatMap_map]
   refine Prod.ext (List.map_congr_left fun k h1=>?_) (MT fun k h1=>?_)
   · show (KW F A (Ci k)).1=_
     rw [ih k h1]
   · show (KW F A (Ci k)).2=_
     rw [ih k h1]
 rw [R3,R3,CS,hl]
 generalize IF F A n.kids=r
 obtain ⟨us,ds⟩:=r
 unfold ZW
 rw [aX,show KT (Ci n)=KT n by unfold KT;rw [Cs],K4]
 dsimp only
 by_cases h1:∀ u∈us,u≠eS
 · rw [Ah h1,Ah h1]
   by_cases h2:I4 F A n us=eS
   · rw [Ah h2,Ah h2,List.map_append];rfl
   · rw [Ad h2,Ad h2]
 · rw [Ad h1,Ad h1]
theorem TJ (k:Int) (x:ByteArray):∀ l:List Nd,fU k (l.map Ci) x=fU k l x
 | []=>rfl
 | a::l=>by rw [List.map_cons,fU,fU,TJ k x l,Cs,Ew,Is]
theorem TI (z:Int):∀ l:List Nd,fA (l.map Ci) z=fA l z
 | []=>rfl
 | a::l=>by rw [List.map_cons,fA,fA,TI z l,Cs,Ew,L3]
theorem TY (src:Nd) (x:ByteArray):line (Ci src) x=line src x:=by unfold line;rw [CS,TJ]
theorem Xb (src n:Nd):P3 (Ci src) (Ci n)=((P3 src n).1,(P3 src n).2.map Nc):=by
 unfold P3
 rw [p6,show fact (Ci src)=fact src from funext fun x=>by unfold fact;rw [CS,TJ],show nM (Ci src)=nM src from funext fun z=>by unfold nM;rw [TY,CS,TI]]
theorem Y1 (b:List Nd) (a:Nd):Iv (b.map Ci) (Ci a)=(Iv b a).map Nc:=by
 have hex:(∃ k∈b.map Ci,k.kind=a.kind∧k.name=a.name)↔∃ k∈b,k.kind=a.kind∧k.name=a.name:=by
   constructor
   · rintro ⟨k,hk,h⟩
     obtain ⟨k',hk',rfl⟩:=List.mem_map.1 hk
     rw [Cs,Ew] at h
     exact ⟨k',hk',h⟩
   · rintro ⟨k,hk,h⟩
     exact ⟨_,List.mem_map_of_mem hk,by rw [Cs,Ew];exact h⟩
 unfold Iv
 rw [Cs,Ew,Is,L3,K4,propext hex,H5]
 simp only [ND,Tz,List.map_nil]
theorem Re:∀ (l b:List Nd),Fi (b.map Ci) (l.map Ci)=(Fi b l).map Nc
 | [],b=>rfl
 | a::l,b=>by
   rw [List.map_cons,Fi,Fi,Y1,List.map_append,← Re l (b++[a]),List.map_append];rfl
theorem VV (src:Nd) (c:Nat) (a:Nd):Fb (Ci src) c (Ci a)=(Fb src c a).map Nc:=by
 unfold Fb
 rw [CS,TJ,TI,Ew,L3,K4]
 simp only [ND,Tz,List.map_nil]
theorem RP (src a k:Nd):Dx (Ci src) (Ci a) (Ci k)=(Dx src a k).map Nc:=by
 unfold Dx
 rw [CS,TI,L3,L3,K4]
 simp only [ND,Tz,List.map_nil]
theorem Yp (src:Nd) (w:ByteArray) (k:Nd):Oc (Ci src) w (Ci k)=(Oc src w k).map Nc:=by
 unfold Oc
 rw [Xb,K4,List.map_append]
 simp only [ND,Tz,List.map_nil]
theorem Sd (src a x:Nd):F8 (Ci src) (Ci a) (Ci x)=(F8 src a x).map Nc:=by
 unfold F8
 rw [CS,Cs,TY,Ew,List.flatMap_map,List.flatMap_map,MT (fun k _=>RP src a k),MT (fun k _=>Yp src _ k),← ND]
theorem Zy (src:Nd) (c:Nat) (a:Nd):Wg (Ci src) c (Ci a)=(Wg src c a).map Nc:=by
 unfold Wg
 rw [Cs,VV,CS,show (a.kids.map Ci).tail=a.kids.tail.map Ci from List.map_tail.symm,List.flatMap_map,MT (fun k _=>Sd src a k),ND,List.map_append]
 rfl
theorem Qi (src:Nd):∀ (l:List Nd) (c:Nat),Jw (Ci src) c (l.map Ci)=(Jw src c l).map Nc
 | [],c=>rfl
 | a::l,c=>by
   rw [List.map_cons,Jw,Jw,Zy,Qi src l,List.map_append,show B0 4 [Ci a]=B0 4 [a] from H5 4 [a]]
theorem Vz (src:Nd):PM (Ci src)=(PM src).map Nc:=by
 unfold PM
 rw [CS,Qi,show Fi [] (src.kids.map Ci)=_ from Re src.kids [],List.map_append]
theorem UP (src:Nd):JY (Ci src)=(JY src).map Nc:=by
 unfold JY
 rw [Cs,propext (SZ src),Vz,ND]
 unfold cap
 rw [List.nil_append,List.nil_append,List.map_take]
 rfl
end Mo
end Go.Proofs.YtkfplcngmiljaaaGreatDoor
