/- Part of a proof: see the last text. -/
import Derived.Test.YtkfplcngmiljaaaGreatDoorUnm
import Derived.Test.YtkfplcngmiljaaaGreatDoorChecked
import Derived.WalkKit
import Derived.WalkLawsBesides
import Derived.WalkSpells
import Derived.Lib.Hide
import Derived.Laws.Rows
set_option linter.unusedVariables false
set_option linter.unusedSimpArgs false
namespace Go.Proofs.YtkfplcngmiljaaaGreatDoor
open AI Go
namespace Mo
set_option maxRecDepth 100000
set_option maxHeartbeats 4000000
theorem Kw {α β:Type} {f h:α→List β}:∀ {l:List α},(∀ a∈l,f a=h a)→l.flatMap f=l.flatMap h
 | [],_=>rfl
 | a::l,k=>by rw [List.flatMap_cons,List.flatMap_cons,k a (by simp),Kw fun b hb=>k b (by simp [hb])]
section
variable {c:Ch} (g:c.Good)
include g
omit g in
theorem Ux {p:Prop} {x y:ByteArray}:c.sw (AO p x y)=AO p (c.sw x) (c.sw y):=by
 by_cases h:p
 · rw [Ag h,Ag h]
 · rw [Af h,Af h]
theorem fH {op:ByteArray} {us:List ByteArray}:IQ op (us.map c.sw)=c.sw (IQ op us):=by
 have hT:=Ch.Gb g Ch.pJ
 have h0:=Ch.Gb g Ch.Uc
 have eT:∀ u,(c.sw u=A3)=(u=A3):=fun u=>propext (Ch.Iy g Ch.pJ)
 have eN:∀ u,(c.sw u=By)=(u=By):=fun u=>propext (Ch.Iy g Ch.uJ)
 have eM:∀ u,(c.sw u=Cm)=(u=Cm):=fun u=>propext (Ch.Iy g Ch.yE)
 have eC:∀ u,Nz (c.sw u)=Nz u:=fun u=>propext (Ch.XA g)
 have hd:(us.map c.sw).headD eS=c.sw (us.headD eS):=by cases us with | nil=>exact h0.symm | cons a l=>rfl
 have hl:(us.map c.sw).getLastD eS=c.sw (us.getLastD eS):=by
   rw [List.getLastD_eq_getLast?,List.getLastD_eq_getLast?,List.getLast?_map]
   cases us.getLast? with
   | none=>exact h0.symm
   | some a=>rfl
 have hE:(∀ u∈us.map c.sw,u=(us.map c.sw).headD eS)=(∀ u∈us,u=us.headD eS):=by
   rw [hd]
   refine propext ⟨fun h u hu=>Ch.TP.1 (h _ (List.mem_map_of_mem hu)),fun h u hu=>?_⟩
   obtain ⟨v,hv,rfl⟩:=List.mem_map.1 hu
   rw [h v hv]
 unfold IQ
 rw [hE,hd,hl]
 unfold Vg
 simp only [Ux,hT,h0,eT,eN,eM,eC]
theorem dN {F F':ByteArray→ByteArray} {A A':Int→ByteArray} (hF:∀ x,c.gd x→F' (c.ro x)=c.sw (F x)) (hA:∀ z,A' z=c.sw (A z)) {n:Nd} (hn:nf c n) {us:List ByteArray}:KG F' A' (DY c n) (us.map c.sw)=c.sw (KG F A n us):=by
 have h0:=Ch.Gb g Ch.Uc
 have hd:(us.map c.sw).headD eS=c.sw (us.headD eS):=by cases us with | nil=>exact h0.symm | cons a l=>rfl
 unfold KG
 simp only [Ux,C2,Gq,Kh,CJ,fH g,hd,h0,Ch.Gb g Ch.uJ,hA,propext (Ch.XA g)]
 refine iff_congr Iff.rfl (fun _=>rfl) fun Xf=>iff_congr Iff.rfl (fun k=>?_) fun U4=>?_
 · rw [Q6 (.inr k),hF _ (U8 hn)]
 · refine iff_congr Iff.rfl (fun _=>rfl) fun _=>iff_congr Iff.rfl (fun _=>rfl) fun _=>iff_congr Iff.rfl (fun _=>rfl) fun _=>iff_congr Iff.rfl (fun k=>?_) fun _=>rfl
   rw [Ge (by omega)]
omit g in
theorem lQ {n:Nd}:Mw (DY c n)=Mw n:=by unfold Mw;rw [C2]
theorem aT {F F':ByteArray→ByteArray} {A A':Int→ByteArray} (hF:∀ x,c.gd x→F' (c.ro x)=c.sw (F x)) (hA:∀ z,A' z=c.sw (A z)):∀ (m:Nat) (n:Nd),Dp n≤m→nf c n→M9 F' A' (DY c n)=(c.sw (M9 F A n).1,(M9 F A n).2):=by
 intro m
 induction m with
 | zero=>intro n h;have:=Cf n;omega
 | succ m ih =>
   intro n h hn
   have hsz:=Cf n
   have hk:∀ k∈n.kids,M9 F' A' (DY c k)=(c.sw (M9 F A k).1,(M9 F A k).2):=fun k hk=>ih k (by have:=EP hk;omega) (MY hn hk)
   have hl:Ki F' A' (n.kids.map (DY c))=((Ki F A n.kids).1.map c.sw,(Ki F A n.kids).2):=by
     rw [Ox,Ox,List.map_map,List.flatMap_map,List.map_map]
     refine Prod.ext (List.map_congr_left fun k h1=>?_) (Kw fun k h1=>?_)
     · show (M9 F' A' (DY c k)).1=_
       rw [hk k h1];rfl
     · rw [hk k h1]
   rw [T1,T1,Ds,hl]
   generalize Ki F A n.kids=r
   obtain ⟨us,ds⟩:=r
   have e0:(∀ u∈us.map c.sw,u≠eS)↔∀ u∈us,u≠eS:=by
     refine ⟨fun h u hu e=>h _ (List.mem_map_of_mem hu) ((Ch.Iy g Ch.Uc).2 e),fun h u hu=>?_⟩
     obtain ⟨v,hv,rfl⟩:=List.mem_map.1 hu
     exact fun e=>h v hv ((Ch.Iy g Ch.Uc).1 e)
   unfold fL
   rw [dN g hF hA hn,lQ,OL]
   show AO (∀ u∈us.map c.sw,u≠eS) _ _=_
   by_cases h1:∀ u∈us,u≠eS
   · rw [Ag (e0.2 h1),Ag (p:=∀ u∈us,u≠eS) h1]
     by_cases h2:KG F A n us=eS
     · rw [Ag h2,Ag ((Ch.Iy g Ch.Uc).2 h2)]
     · rw [Af h2,Af fun e=>h2 ((Ch.Iy g Ch.Uc).1 e)]
   · rw [Af fun e=>h1 (e0.1 e),Af (p:=∀ u∈us,u≠eS) h1]
     show (eS,ds)=(c.sw eS,ds)
     rw [Ch.Gb g Ch.Uc]
omit g in
theorem eG {l:List Nd} (hl:∀ a∈l,nf c a) {x:ByteArray} (hx:c.gd x):fU 2 (l.map (DY c)) (c.ro x)=(fU 2 l x).map c.sw:=by
 induction l with
 | nil=>rfl
 | cons a l ih =>
   rw [List.map_cons,fU,fU,ih fun k hk=>hl k (by simp [hk]),C2,CJ,Gq]
   have:(a.kind=2∧c.rn a=c.ro x)↔(a.kind=2∧a.name=x):=and_congr_right fun k=>by
     rw [Q6 (.inl k)];exact Ch.Xs (U8 (hl a (by simp))) hx
   by_cases h:a.kind=2∧a.name=x
   · rw [Ag h,Ag (this.2 h)];rfl
   · rw [Af h,Af fun e=>h (this.1 e)]
omit g in
theorem Vj {l:List Nd} {x:ByteArray}:fU 3 (l.map (DY c)) x=(fU 3 l x).map c.sw:=by
 induction l with
 | nil=>rfl
 | cons a l ih =>
   rw [List.map_cons,fU,fU,ih,C2,CJ,Gq]
   have:(a.kind=3∧c.rn a=x)↔(a.kind=3∧a.name=x):=and_congr_right fun k=>by rw [Ge (by omega)]
   by_cases h:a.kind=3∧a.name=x
   · rw [Ag h,Ag (this.2 h)];rfl
   · rw [Af h,Af fun e=>h (this.1 e)]
omit g in
theorem ZP {l:List Nd} {z:Int}:fA (l.map (DY c)) z=fA l z:=by
 induction l with
 | nil=>rfl
 | cons a l ih =>
   rw [List.map_cons,fA,fA,ih,C2,CJ,Kh]
   exact iff_congr Iff.rfl (fun k=>by rw [Ge (by omega)]) fun _=>rfl
theorem VO {o:Option ByteArray}:(o.map c.sw).getD eS=c.sw (o.getD eS):=by
 cases o with
 | none=>exact (Ch.Gb g Ch.Uc).symm
 | some a=>rfl
theorem So {src:Nd} (x:ByteArray):line (DY c src) x=c.sw (line src x):=by
 unfold line
 rw [Ds,Vj,VO g]
theorem Y6 {src n:Nd} (hs:nf c src) (hn:nf c n):Sd (DY c src) (DY c n)=(c.sw (Sd src n).1,(Sd src n).2):=by
 refine aT g (fun x hx=>?_) (fun z=>?_) (Dp n) n (Nat.le_refl _) hn
 · unfold fact
   rw [Ds,eG (fun a ha=>MY hs ha) hx,VO g]
 · unfold uO
   rw [So g,Ds,ZP]
theorem Wp {src e:Nd} (hs:nf c src) (he:nf c e) (k:src.kind=1) (ke:e.kind≠1) (vs:LM src) (ve:LM e):Km (DY c src) (DY c e)=(c.sw (Km src e).1,(Km src e).2):=by
 rw [Nq,Nq,Ag ⟨⟨by rw [C2];exact k,by rw [C2];exact ke⟩,UM g vs,UM g ve⟩,Ag ⟨⟨k,ke⟩,vs,ve⟩,Y6 g hs he]
omit g in
theorem QQ {a b:Nd} (ha:nf c a) (hb:nf c b):((DY c b).kind=(DY c a).kind∧(DY c b).name=(DY c a).name)↔(b.kind=a.kind∧b.name=a.name):=by
 rw [C2,C2,CJ,CJ]
 refine and_congr_right fun k=>?_
 by_cases h:a.kind=2∨a.kind=12
 · rw [Q6 h,Q6 (by rw [k];exact h)];exact Ch.Xs (U8 hb) (U8 ha)
 · rw [Ge h,Ge (by rw [k];exact h)]
theorem dV {b:List Nd} {a:Nd} (hb:∀ k∈b,nf c k) (ha:nf c a):J0 (b.map (DY c)) (DY c a)=J0 b a:=by
 have hex:(∃ k∈b.map (DY c),k.kind=(DY c a).kind∧k.name=(DY c a).name)↔∃ k∈b,k.kind=a.kind∧k.name=a.name:=by
   constructor
   · rintro ⟨k,hk,h⟩
     obtain ⟨k',hk',rfl⟩:=List.mem_map.1 hk
     exact ⟨k',hk',(QQ ha (hb k' hk')).1 h⟩
   · rintro ⟨k,hk,h⟩
     exact ⟨_,List.mem_map_of_mem hk,(QQ ha (hb k hk)).2 h⟩
 unfold J0
 rw [propext hex]
 simp only [C2,Gq,Kh,OL,Mj,propext (Ch.Iy g Ch.pJ),propext (Ch.XA g)]
theorem Tq:∀ {l b:List Nd},(∀ k∈b,nf c k)→(∀ k∈l,nf c k)→Hl (b.map (DY c)) (l.map (DY c))=Hl b l
 | [],b,_,_=>rfl
 | a::l,b,hb,hl=>by
   have ha:=hl a (by simp)
   rw [List.map_cons,Hl,Hl,dV g hb ha]
   have:=Tq (l:=l) (b:=b++[a]) (fun k hk=>by
     rcases List.mem_append.1 hk with h | h
     · exact hb k h
     · rw [List.mem_singleton.1 h];exact ha) fun k hk=>hl k (by simp [hk])
   rw [List.map_append,List.map_singleton] at this
   rw [this]
theorem dM {src k:Nd} {w:ByteArray} (hs:nf c src) (hk:nf c k):QX (DY c src) (c.sw w) (DY c k)=QX src w k:=by
 unfold QX
 rw [Y6 g hs hk,OL]
 congr 1
 refine iff_congr (and_congr (not_congr (Ch.Iy g Ch.Uc)) (and_congr (not_congr (Ch.Iy g Ch.Uc)) (not_congr Ch.TP))) (fun _=>rfl) fun _=>rfl
theorem T4 {src a x:Nd} (hs:nf c src) (ka:a.kind=4) (hx:nf c x):Ic (DY c src) (DY c a) (DY c x)=Ic src a x:=by
 unfold Ic
 rw [C2,Ds,List.flatMap_map,List.flatMap_map]
 refine iff_congr Iff.rfl (fun _=>Kw fun k hk=>?_) fun _=>Kw fun k hk=>?_
 · unfold Fo
   rw [Ds,ZP]
   simp only [Kh,OL]
 · rw [CJ,Ge (c:=c) (n:=a) (by omega),So g]
   have:AO (x.kind=6) A3 (c.sw (line src a.name))=c.sw (AO (x.kind=6) A3 (line src a.name)):=by rw [Ux,Ch.Gb g Ch.pJ]
   rw [this,dM g hs (MY hx hk)]
theorem jU {src a:Nd} {m:Nat} (hs:nf c src) (ha:nf c a):YT (DY c src) m (DY c a)=YT src m a:=by
 unfold YT
 rw [C2]
 refine iff_congr Iff.rfl (fun k=>?_) fun _=>rfl
 congr 1
 · unfold Hw
   rw [Ds,ZP,Vj,Kh,OL,CJ,Ge (c:=c) (n:=a) (by omega)]
   refine iff_congr Iff.rfl (fun _=>rfl) fun _=>iff_congr ?_ (fun _=>rfl) fun _=>rfl
   rw [Option.map_eq_none_iff]
 · rw [Ds,← List.map_tail,List.flatMap_map]
   exact Kw fun x hx=>T4 g hs k (MY ha (List.mem_of_mem_tail hx))
theorem U9 {src:Nd} (hs:nf c src):∀ {l:List Nd} {m:Nat},(∀ k∈l,nf c k)→K9 (DY c src) m (l.map (DY c))=K9 src m l
 | [],_,_=>rfl
 | a::l,m,hl=>by
   rw [List.map_cons,K9,K9,jU g hs (hl a (by simp)),U9 hs fun k hk=>hl k (by simp [hk])]
   rw [show Bi 4 [DY c a]=Bi 4 [a] from Mj c 4 [a]]
theorem WD {src:Nd} (hs:nf c src) (k:src.kind=1) (vs:LM src):Lx (DY c src)=Lx src:=by
 unfold Lx
 rw [Ag ⟨by rw [C2];exact k,UM g vs⟩,Ag ⟨k,vs⟩]
 unfold Yi
 rw [Ds,U9 g hs fun k hk=>MY hs hk]
 have:=Tq g (b:=[]) (l:=src.kids) (fun k hk=>by cases hk) fun k hk=>MY hs hk
 rw [List.map_nil] at this
 rw [this]
end
theorem NQ {c:Ch} {h:Nd→Option Nd} {body:Nat→Nd→List Nd→Option (Lp (List Nd) (List Nd) Nd)} (hb:∀ i y x,body i y x=(h y).bind fun z=>My (x.length+1) (some (.nx (x++[z])))) :
   ∀ {l m:List Nd} {i:Nat},(∀ k∈l,h k=some (DY c k))→m.length+l.length≤100000000→AT body (fun x=>x) l i m=some (.inl (m++l.map (DY c)))
 | [],m,i,_,_=>by rw [AT];simp
 | a::l,m,i,hk,hl=>by
   simp only [List.length_cons] at hl
   rw [AT,hb,hk a (by simp)]
   simp only [Option.bind_some]
   rw [U3 (by omega)]
   have:=NQ (c:=c) hb (l:=l) (m:=m++[DY c a]) (i:=i+1) (fun k h=>hk k (by simp [h])) (by simp;omega)
   rw [show m++(a::l).map (DY c)=(m++[DY c a])++l.map (DY c) by simp]
   exact this
theorem Zd (c:Ch):∀ (q:Nat) (n:Nd),Dp n≤q→Dp n≤2000→CX n→Bc q n c.f c.t c.a c.b=some (DY c n):=by
 intro q
 induction q with
 | zero=>intro n h;have:=Cf n;omega
 | succ q ih =>
   intro n hq h2 hok
   obtain ⟨p1,p2,p3⟩:=En hok
   have hsz:=Cf n
   have hlen:=N7 n.kids
   have hkids:∀ k∈n.kids,Bc q k c.f c.t c.a c.b=some (DY c k):=fun k hk=>ih k (by have:=EP hk;omega) (by have:=EP hk;omega) (p3 k hk)
   have E:∀ {body:Nat→Nd→List Nd→Option (Lp (List Nd) (List Nd) Nd)},(∀ i y x,body i y x=(Bc q y c.f c.t c.a c.b).bind fun z=>My (x.length+1) (some (.nx (x++[z]))))→Gv n.kids.length (AT body (fun x=>x) (n.kids.drop 0) 0 [])=some (.inl (n.kids.map (DY c))):=fun hb=>by
     rw [Fa p2,List.drop_zero,NQ hb hkids (by simp;omega)]
     simp
   rw [Bc,Ga]
   rw [E (body:=fun i y x=>Dk (Bc q) c.f c.t c.a c.b i y x) (fun _ _ _=>rfl),E (body:=fun i y x=>Dj (Bc q) c.f c.t c.a c.b i y x) (fun _ _ _=>rfl),E (body:=fun i y x=>Di (Bc q) c.f c.t c.a c.b i y x) (fun _ _ _=>rfl),E (body:=fun i y x=>B3 (Bc q) c.f c.t c.a c.b i y x) (fun _ _ _=>rfl),E (body:=fun i y x=>B2 (Bc q) c.f c.t c.a c.b i y x) (fun _ _ _=>rfl),E (body:=fun i y x=>B1 (Bc q) c.f c.t c.a c.b i y x) (fun _ _ _=>rfl)]
   rw [Hq]
   simp only [uP,rW,Option.bind_some,GF,uY,Ch.rn,Ch.ro,Ch.sw]
   by_cases k2:n.kind=2<;>by_cases U4:n.kind=12<;>by_cases hf:n.name=c.f<;>by_cases ha:n.unit=c.a<;>by_cases hb:n.unit=c.b<;>simp only [k2,U4,hf,ha,hb,if_true,if_false,or_true,true_or,or_false,false_or,or_self]<;>(by_cases hab:c.b=c.a<;>simp [hab])
theorem To (c:Ch) {n:Nd} (h2:Dp n≤2000) (hok:CX n):D9 n c.f c.t c.a c.b=some (DY c n) :=
 LB (Dp n) fun q hq=>Zd c q n hq h2 hok
end Mo
end Go.Proofs.YtkfplcngmiljaaaGreatDoor
namespace LexS
def MO (n:Nat):Nat :=
 if n=32∨n=9∨n=10∨n=13 then 1
 else if 97≤n∧n≤122 then 2
 else if 65≤n∧n≤90 then 4
 else if 48≤n∧n≤57 then 8
 else if n=95 then 16
 else 0
def cin (m:Nat) (c:UInt8):Bool:=(MO c.toNat &&& m) != 0
def BQ (m:Nat) (t:List UInt8):Nat:=(t.takeWhile (cin m)).length
def IJ (m:Nat) (t:List UInt8):Bool:=match t with
 | []=>false
 | c::_=>cin m c
def GM (b:Bool):List UInt8→Nat
 | []=>0
 | c::t =>
   if b then (if c=10 then 1+GM false t else 1+GM true t)
   else if cin 1 c then 1+GM false t
   else if c=47∧t.head?=some 47 then 1+GM true t
   else 0
def Fx (t:List UInt8):Nat:=GM false t
def KH (t:List UInt8) (i:Nat):Bool :=
 if i=4∨i=7 then t[i]? == some 45 else IJ 8 (t.drop i)
def Iz (t:List UInt8):Bool:=decide (10≤t.length)&&(List.range 10).all (KH t)
def free (t:List UInt8):Bool:=!(IJ 30 t||t.head? == some 46)
def Hk (t:List UInt8):Nat×Nat :=
 let d:=BQ 8 t
 if Iz t then (if free (t.drop 10) then (5,10) else (0,0))
 else if t.head?=some 48∧1 < d then (0,0)
 else if (t.drop d).head?=some 46 then
   (if 10 < d∨IJ 8 (t.drop (d+1))=false∨IJ 8 (t.drop (d+2))=false then (0,0)
    else if free (t.drop (d+3)) then (4,d+3) else (0,0))
 else if 12 < d then (0,0)
 else if free (t.drop d) then (3,d) else (0,0)
def DH:List (List UInt8):=[[61,61],[33,61],[60,61],[62,61],[60],[62],[43],[45],[42],[47],[40],[41],[123],[125],[58],[59],[44]]
def NT (t:List UInt8):List (List UInt8)→Nat×Nat
 | []=>(0,0)
 | y::ys=>if y.isPrefixOf t then (6,y.length) else NT t ys
def CC (t:List UInt8):Nat×Nat :=
 if IJ 2 t then (if BQ 30 t≤16∧BQ 26 t=BQ 30 t then (1,BQ 30 t) else (0,0))
 else if IJ 4 t then (if BQ 30 t=3∧BQ 4 t=BQ 30 t then (2,BQ 30 t) else (0,0))
 else if IJ 8 t then Hk t
 else NT t DH
abbrev Tok:=Nat×List UInt8×Nat
def Ij:Nat→Nat→List UInt8→List Tok
 | 0,_,_=>[]
 | n+1,o,t =>
   if t=[] then []
   else if (CC t).1=0 then [(0,[],o)]
   else ((CC t).1,t.take (CC t).2,o) ::
     Ij n (o+(CC t).2+Fx (t.drop (CC t).2)) ((t.drop (CC t).2).drop (Fx (t.drop (CC t).2)))
def C8 (s:List UInt8):List Tok:=Ij s.length (Fx s) (s.drop (Fx s))
end LexS
namespace LexS
theorem LC (m:Nat) (c:UInt8) (t:List UInt8):BQ m (c::t)=if cin m c then 1+BQ m t else 0:=by
 unfold BQ
 rw [List.takeWhile_cons]
 by_cases h:cin m c=true
 · simp [h];omega
 · simp [h]
theorem WN (m:Nat) (t:List UInt8):IJ m (t.drop (BQ m t))=false:=by
 induction t with
 | nil=>rfl
 | cons c t ih =>
   rw [LC]
   by_cases h:cin m c=true
   · rw [if_pos h,Nat.add_comm,List.drop_succ_cons];exact ih
   · rw [if_neg h,List.drop_zero];simp [IJ,h]
theorem L3 (m:Nat) (t:List UInt8):BQ m t≤t.length:=by
 unfold BQ;exact (List.takeWhile_prefix _).length_le
theorem Wk (t:List UInt8):GM false t=BQ 1 t+GM false (t.drop (BQ 1 t)):=by
 induction t with
 | nil=>rfl
 | cons c t ih =>
   rw [LC]
   by_cases h:cin 1 c=true
   · rw [if_pos h,Nat.add_comm 1,List.drop_succ_cons,GM]
     simp only [h,Bool.false_eq_true,if_false,if_true]
     omega
   · rw [if_neg h];simp
theorem Tc (t:List UInt8) (h:[47,47].isPrefixOf t=true):GM false t=GM true t:=by
 obtain ⟨u,rfl⟩:∃ u,t=47::47::u:=by
   obtain ⟨u,hu⟩:=List.isPrefixOf_iff_prefix.1 h
   exact ⟨u,by simpa using hu.symm⟩
 rw [GM]
 conv=>rhs;rw [GM]
 simp [cin,MO]
theorem Yt (t:List UInt8) (h1:IJ 1 t=false) (h:[47,47].isPrefixOf t=false):GM false t=0:=by
 cases t with
 | nil=>rfl
 | cons c t =>
   rw [GM]
   have h1':cin 1 c=false:=h1
   simp only [h1',Bool.false_eq_true,if_false]
   rw [if_neg]
   rintro ⟨rfl,h2⟩
   cases t with
   | nil=>simp at h2
   | cons d t=>simp at h2;subst h2;simp [List.isPrefixOf] at h
theorem ZY (t:List UInt8):GM true (10::t)=GM false (10::t):=by
 rw [GM,GM];simp [cin,MO]
theorem mW (c:UInt8) (t:List UInt8) (h:c≠10):GM true (c::t)=1+GM true t:=by
 rw [GM];simp [h]
theorem bB (b:Bool) (t:List UInt8):GM b t≤t.length:=by
 induction t generalizing b with
 | nil=>simp [GM]
 | cons c t ih =>
   rw [GM]
   have h1:=ih true
   have h2:=ih false
   repeat' split
   all_goals simp only [List.length_cons];omega
theorem VK (t:List UInt8):Fx t≤t.length:=bB _ _
theorem NV (b a:List UInt8):b.isPrefixOf a=(a.take b.length == b):=by
 rw [Bool.eq_iff_iff,List.isPrefixOf_iff_prefix,List.prefix_iff_eq_take,beq_iff_eq]
 exact eq_comm
end LexS
namespace LexS
theorem XM (t:List UInt8) (ys:List (List UInt8)) (h:(NT t ys).1≠0) (hy:∀ y∈ys,1≤y.length):1≤(NT t ys).2∧(NT t ys).2≤t.length:=by
 induction ys with
 | nil=>simp [NT] at h
 | cons y ys ih =>
   rw [NT] at h ⊢
   by_cases hp:y.isPrefixOf t=true
   · rw [if_pos hp]
     exact ⟨hy y (by simp),(List.isPrefixOf_iff_prefix.1 hp).length_le⟩
   · rw [if_neg hp] at h ⊢
     exact ih h (fun y' h'=>hy y' (by simp [h']))
theorem Pl (m:Nat) (t:List UInt8) (h:IJ m t=true):1≤BQ m t:=by
 cases t with
 | nil=>simp [IJ] at h
 | cons c t=>have h':cin m c=true:=h;rw [LC,if_pos h'];omega
theorem dD (c:UInt8) (m m':Nat) (h:cin m c=true) (hs:∀ k,k=0∨k=1∨k=2∨k=4∨k=8∨k=16→(k &&& m)≠0→(k &&& m')≠0):cin m' c=true:=by
 unfold cin at h ⊢
 rw [bne_iff_ne] at h ⊢
 refine hs _ ?_ h
 unfold MO
 repeat (split;simp)
 simp
theorem VL (t:List UInt8) (m m':Nat) (h:IJ m t=true) (hs:∀ k,k=0∨k=1∨k=2∨k=4∨k=8∨k=16→(k &&& m)≠0→(k &&& m')≠0):IJ m' t=true:=by
 cases t with
 | nil=>simp [IJ] at h
 | cons c t=>exact dD c m m' h hs
theorem aC (m:Nat) (t:List UInt8) (k:Nat) (h:IJ m (t.drop k)=true):k < t.length:=by
 rcases Nat.lt_or_ge k t.length with hk | hk
 · exact hk
 · rw [List.drop_eq_nil_of_le hk] at h;simp [IJ] at h
theorem ZW (t:List UInt8) (h8:IJ 8 t=true) (h:(Hk t).1≠0):1≤(Hk t).2∧(Hk t).2≤t.length:=by
 have hd:=Pl 8 t h8
 have hl:=L3 8 t
 unfold Hk at h ⊢
 simp only at h ⊢
 by_cases h1:Iz t=true
 · rw [if_pos h1] at h ⊢
   by_cases h2:free (t.drop 10)=true
   · rw [if_pos h2]
     have:10≤t.length:=by unfold Iz at h1;simp at h1;exact h1.1
     exact ⟨by simp,this⟩
   · rw [if_neg h2] at h;simp at h
 · rw [if_neg h1] at h ⊢
   by_cases h2:t.head?=some 48∧1 < BQ 8 t
   · rw [if_pos h2] at h;simp at h
   · rw [if_neg h2] at h ⊢
     by_cases h3:(t.drop (BQ 8 t)).head?=some 46
     · rw [if_pos h3] at h ⊢
       by_cases h4:10 < BQ 8 t∨IJ 8 (t.drop (BQ 8 t+1))=false∨IJ 8 (t.drop (BQ 8 t+2))=false
       · rw [if_pos h4] at h;simp at h
       · rw [if_neg h4] at h ⊢
         by_cases h5:free (t.drop (BQ 8 t+3))=true
         · rw [if_pos h5]
           have h6:IJ 8 (t.drop (BQ 8 t+2))=true:=by
             cases hh:IJ 8 (t.drop (BQ 8 t+2)) with
             | true=>rfl
             | false=>exact absurd (.inr (.inr hh)) h4
           have:=aC 8 t _ h6
           exact ⟨by simp,by simp only;omega⟩
         · rw [if_neg h5] at h;simp at h
     · rw [if_neg h3] at h ⊢
       by_cases h4:12 < BQ 8 t
       · rw [if_pos h4] at h;simp at h
       · rw [if_neg h4] at h ⊢
         by_cases h5:free (t.drop (BQ 8 t))=true
         · rw [if_pos h5];exact ⟨hd,hl⟩
         · rw [if_neg h5] at h;simp at h
theorem O4 (t:List UInt8) (h:(CC t).1≠0):1≤(CC t).2∧(CC t).2≤t.length:=by
 have hl:=L3 30 t
 unfold CC at h ⊢
 by_cases h2:IJ 2 t=true
 · have hd:=Pl 30 t (VL t 2 30 h2 (by intro k hk;rcases hk with rfl | rfl | rfl | rfl | rfl | rfl<;>decide))
   rw [if_pos h2] at h ⊢
   by_cases hc:BQ 30 t≤16∧BQ 26 t=BQ 30 t
   · rw [if_pos hc];exact ⟨hd,hl⟩
   · rw [if_neg hc] at h;simp at h
 · rw [if_neg h2] at h ⊢
   by_cases h4:IJ 4 t=true
   · have hd:=Pl 30 t (VL t 4 30 h4 (by intro k hk;rcases hk with rfl | rfl | rfl | rfl | rfl | rfl<;>decide))
     rw [if_pos h4] at h ⊢
     by_cases hc:BQ 30 t=3∧BQ 4 t=BQ 30 t
     · rw [if_pos hc];exact ⟨hd,hl⟩
     · rw [if_neg hc] at h;simp at h
   · rw [if_neg h4] at h ⊢
     by_cases h8:IJ 8 t=true
     · rw [if_pos h8] at h ⊢;exact ZW t h8 h
     · rw [if_neg h8] at h ⊢;exact XM t DH h (by decide)
def Fj (s:List UInt8) (k:Nat):List Tok:=Ij (s.length - k) k (s.drop k)
theorem Nv (n m o:Nat) (t:List UInt8) (hn:t.length≤n) (hm:t.length≤m):Ij n o t=Ij m o t:=by
 induction n generalizing m o t with
 | zero =>
   have:t=[]:=by cases t with | nil=>rfl | cons c t=>simp at hn
   subst this
   cases m with
   | zero=>rfl
   | succ m=>simp [Ij]
 | succ n ih =>
   cases m with
   | zero =>
     have:t=[]:=by cases t with | nil=>rfl | cons c t=>simp at hm
     subst this;simp [Ij]
   | succ m =>
     rw [Ij,Ij]
     by_cases ht:t=[]
     · rw [if_pos ht,if_pos ht]
     · rw [if_neg ht,if_neg ht]
       by_cases hz:(CC t).1=0
       · rw [if_pos hz,if_pos hz]
       · rw [if_neg hz,if_neg hz]
         have hp:=O4 t hz
         refine congrArg _ (ih m _ _ ?_ ?_)
         · simp only [List.length_drop];omega
         · simp only [List.length_drop];omega
theorem SI (s:List UInt8) (k:Nat) (h:s.length≤k):Fj s k=[]:=by
 unfold Fj
 rw [show s.length - k=0 from by omega];rfl
theorem SP (s:List UInt8) (k:Nat) (h:k < s.length) (hz:(CC (s.drop k)).1=0):Fj s k=[(0,[],k)]:=by
 unfold Fj
 obtain ⟨n,hn⟩:∃ n,s.length - k=n+1:=⟨s.length - k - 1,by omega⟩
 rw [hn,Ij,if_neg (by intro e;have:=congrArg List.length e;simp at this;omega),if_pos hz]
theorem Tw (s:List UInt8) (k:Nat) (h:k < s.length) (hz:(CC (s.drop k)).1≠0) :
   Fj s k=((CC (s.drop k)).1,(s.drop k).take (CC (s.drop k)).2,k)::Fj s (k+(CC (s.drop k)).2+Fx (s.drop (k+(CC (s.drop k)).2))):=by
 have hp:=O4 _ hz
 rw [List.length_drop] at hp
 unfold Fj
 obtain ⟨n,hn⟩:∃ n,s.length - k=n+1:=⟨s.length - k - 1,by omega⟩
 rw [hn,Ij,if_neg (by intro e;have:=congrArg List.length e;simp at this;omega),if_neg hz]
 refine congrArg _ ?_
 rw [List.drop_drop,List.drop_drop]
 refine Nv _ _ _ _ ?_ ?_
 · rw [List.length_drop];omega
 · rw [List.length_drop];omega
theorem WM (s:List UInt8):C8 s=Fj s (Fx s):=by
 unfold C8 Fj
 exact Nv _ _ _ _ (by rw [List.length_drop];omega) (by rw [List.length_drop];omega)
def I9:List Tok→List Tok→List Tok×Nat×Nat
 | acc,[]=>(acc,0,0)
 | acc,x::r=>if acc.length=2000 then ([],2,x.2.2) else if x.1=0 then ([],61,x.2.2) else I9 (acc++[x]) r
def SV (s:List UInt8):List Tok×Nat×Nat:=if 6000 < s.length then ([],2,0) else I9 [] (C8 s)
def Tb (l:List Tok):Prop:=l.length≤2000∧∀ x∈l,x.1≠0
theorem NO (acc q r:List Tok) (h:Tb (acc++q)):I9 acc (q++r)=I9 (acc++q) r:=by
 induction q generalizing acc with
 | nil=>simp
 | cons x q ih =>
   rw [List.cons_append,I9]
   have h1:=h.1
   rw [List.length_append,List.length_cons] at h1
   rw [if_neg (by omega),if_neg (h.2 x (by simp))]
   have:=ih (acc++[x]) (by simpa using h)
   simpa using this
end LexS
namespace Go.Proofs.YtkfplcngmiljaaaGreatDoor
open Go.RowKit LexS
def D7:Array Value:=(DH.map fun y=>Value.string ⟨y.toArray⟩).toArray
def Ib (w:World):Prop:=(∀ i,i < 128→w.cell? ⟨2,i,none⟩=some (.int .u8 (MO i)))∧(∀ (j:Nat) v,D7.toList[j]?=some v→w.cell? ⟨0,j,none⟩=some v)
theorem Ib.MO {w:World} (h:Ib w) (i:Nat) (hi:i < 128):w.cell? ⟨2,i,none⟩=some (.int .u8 (MO i)):=by
 exact h.1 i hi
theorem Ib.M4 {w w':World} (h:Ib w) (hk:w'.heap[(2:Nat)]?=w.heap[(2:Nat)]?∧w'.heap[(0:Nat)]?=w.heap[(0:Nat)]?):Ib w':=by
 refine ⟨fun i hi=>?_,fun j v hj=>?_⟩
 · rw [World.cell?_of_block (w:=w) hk.1];exact h.1 i hi
 · rw [World.cell?_of_block (w:=w) hk.2];exact h.2 j v hj
def TB (n:Nat):Prop:=2 < n∧0 < n
theorem U6 {w:World} {g i:Nat} {v:Value} (h:w.cell? ⟨g,i,none⟩=some v):g < w.heap.size:=by
 unfold World.cell? at h
 by_cases hg:g < w.heap.size
 · exact hg
 · rw [Array.getElem?_eq_none (by simpa using hg)] at h
   cases h
theorem Ib.tb {w:World} (h:Ib w):TB w.heap.size:=⟨U6 (h.1 0 (by decide)),U6 (h.2 0 _ rfl)⟩
theorem LO {P:Program} {ops:Array Oper} {rest:List Oper} {o:Oper} {a:Act} {w:World} {Q:Exit→Act→World→Prop} (hgd:o.guard=none) (ty:TypeId) (x:Operand) (ho:o.op=.load ty x)
   (g:Nat) (hx:a.eval x=.pointer (some ⟨g,0,none⟩)) (cs:Array Value) (d:TypeDesc) (hg:∀ (j:Nat) v,cs.toList[j]?=some v→w.cell? ⟨g,j,none⟩=some v)
   (hu:P.underlying ty=some d) (hd:(match d with | .struct _ | .array _ _=>true | _=>false)=true) (hi:(P.info? ty).map (·.size)=some cs.size)
   (h:wpList P ops Q rest (a.put o.dst (.agg cs)) w):wpList P ops Q (o::rest) a w:=by
 have hl:(loadCells ⟨g,0,none⟩ cs.toList.length).run P w=.ok cs.toList.toArray w :=
   run_loadCells_list (P:=P) w ⟨g,0,none⟩ cs.toList (fun j v hv=>by
     have hadd:(⟨g,0,none⟩:Addr).add j=⟨g,j,none⟩:=by unfold Addr.add;split<;>simp_all
     rw [hadd];exact hg j v hv)
 have hrow:(loadVar ty ⟨g,0,none⟩).run P w=.ok (.agg cs) w:=by
   cases hq:P.info? ty with
   | none=>simp [hq] at hi
   | some i =>
     have hs:i.size=cs.size:=by simpa [hq] using hi
     have hagg:(isAgg ty).run P w=.ok true w:=by
       unfold isAgg
       rw [Sem.run_bind,run_underlying hu w]
       cases d<;>simp_all
     simp only [Array.length_toList,Array.toArray_toList] at hl
     simp [loadVar,Sem.run_bind,hagg,Go.sizeOf,typeInfo,hq,hs,hl]
 refine wpList_plain hgd fun _ hK=>?_
 unfold Oper.wp execOp
 simp only [ho,hx,Instr.loadAt,Instr.sureAddr,Sem.run_bind,Sem.run_pure,Result.andThen_ok,hrow]
 exact hK _ _ h
abbrev L (s:ByteArray):List UInt8:=s.data.toList
theorem JP (s:ByteArray) (k:Nat) (h:k < s.size):(L s).drop k=s[k]::(L s).drop (k+1):=by
 rw [List.drop_eq_getElem_cons (by simpa using h)];rfl
theorem OV (s:ByteArray) (k:Nat) (h:s.size≤k):(L s).drop k=[]:=by
 rw [List.drop_eq_nil_iff];simpa using h
def uC (m:Nat):Bool:=m == 1||m == 2||m == 4||m == 8||m == 26||m == 30
theorem XB (n:Nat):MO n=0∨MO n=1∨MO n=2∨MO n=4∨MO n=8∨MO n=16:=by
 unfold MO;repeat (split;simp)
 simp
theorem eP (n:Nat) (h:128≤n):MO n=0:=by
 unfold MO
 rw [if_neg (by omega),if_neg (by omega),if_neg (by omega),if_neg (by omega),if_neg (by omega)]
theorem Yo (n m:Nat) (hm:uC m=true):(bits BinOp.and IntKind.u8 (MO n:Int) (m:Int) != 0)=((MO n &&& m) != 0):=by
 have hm':m=1∨m=2∨m=4∨m=8∨m=26∨m=30:=by simp [uC] at hm;omega
 rcases XB n with h | h | h | h | h | h<;>rw [h]<;>rcases hm' with rfl | rfl | rfl | rfl | rfl | rfl<;>decide
set_option maxHeartbeats 400000 in
theorem EI (s:ByteArray) (a:Int) (m:Nat) (w:World) (hT:Ib w) (h0:0≤a) (hm:uC m=true) :
   Calls Tryz.prog 124 #[.string s,.int .i64 a,.int .u8 m] w fun e w'=>e=.returned (.bool (IJ m ((L s).drop a.toNat)))∧w=w':=by
 obtain ⟨k,rfl⟩:=Int.eq_ofNat_of_zero_le h0
 rw [Int.toNat_natCast]
 by_cases ha:k < s.size
 · have e1:IJ m ((L s).drop k)=cin m s[k]:=by rw [JP s k ha];rfl
   have E1:=Lib.hid e1
   clear e1
   have HM:=Lib.hid hm
   clear hm
   by_cases h128:(s[k].toNat:Int) < 128
   · have hc:=hT.MO s[k].toNat (by omega)
     go_enter Tryz.func124,Tryz.ntmps124
     go_wp2
     go_ret
     refine ⟨?_,rfl⟩
     rw [E1.out]
     have:=Yo s[k].toNat m HM.out
     exact congrArg (fun b=>Ending.returned (.bool b)) this
   · have e2:cin m s[k]=false:=by unfold cin;rw [eP _ (by omega)];simp
     have E2:=Lib.hid e2
     clear e2
     go_enter Tryz.func124,Tryz.ntmps124
     go_wp2
     go_ret
     exact ⟨by rw [E1.out,E2.out];rfl,rfl⟩
 · have e1:IJ m ((L s).drop k)=false:=by rw [OV s k (by omega)];rfl
   have E1:=Lib.hid e1
   clear e1
   go_enter Tryz.func124,Tryz.ntmps124
   go_wp2
   go_ret
   exact ⟨by rw [E1.out];rfl,rfl⟩
theorem SW (m:Nat) (s:ByteArray) (k:Nat) (h:IJ m ((L s).drop k)=true):k+BQ m ((L s).drop k)=k+1+BQ m ((L s).drop (k+1))∧k < s.size:=by
 by_cases hk:k < s.size
 · rw [JP s k hk] at h ⊢
   have h':cin m s[k]=true:=h
   refine ⟨?_,hk⟩
   unfold BQ
   rw [List.takeWhile_cons,if_pos h']
   simp;omega
 · rw [OV s k (by omega)] at h;simp [IJ] at h
theorem X6 (m:Nat) (t:List UInt8) (h:IJ m t=false):BQ m t=0:=by
 cases t with
 | nil=>rfl
 | cons c t=>unfold BQ;rw [List.takeWhile_cons];have:cin m c=false:=h;simp [this]
set_option maxHeartbeats 400000 in
theorem Jv (s:ByteArray) (a:Int) (m:Nat) (w:World) (hs:s.size≤9223372036854775806) (hT:Ib w) (h0:0≤a) (hm:uC m=true) :
   Calls Tryz.prog 122 #[.string s,.int .i64 a,.int .u8 m] w fun e w'=>e=.returned (.int .i64 (a+BQ m ((L s).drop a.toNat):Int))∧w=w':=by
 obtain ⟨k0,rfl⟩:=Int.eq_ofNat_of_zero_le h0
 rw [Int.toNat_natCast]
 have HM:=Lib.hid hm
 clear hm
 go_enter Tryz.func122,Tryz.ntmps122
 go_wp2_with fail
 go_loop [1] (fun i=>∃ k:Nat,Hid (k+BQ m ((L s).drop k)=k0+BQ m ((L s).drop k0))∧i=.int .i64 k) (fun i=>s.size - (intOf i).toNat)
 case atStart=>exact ⟨k0,Lib.hid rfl,rfl⟩
 case round =>
   obtain ⟨k,HK,rfl⟩:=hrel
   cases hb:IJ m ((L s).drop k) with
   | true =>
     obtain ⟨e1,hlt⟩:=SW m s k hb
     have E1:=Lib.hid e1
     clear e1
     have HB:=Lib.hid hb
     clear hb
     go_wp2_with fail
     refine (EI s _ m _ hT (by omega) HM.out).mono ?_
     rintro e w' ⟨rfl,rfl⟩
     rw [Int.toNat_natCast,HB.out]
     go_wp2_with fail
     go_round
     case rel=>exact ⟨k+1,Lib.hid (by rw [← HK.out,E1.out]),by go_num⟩
     case measure=>simp [intOf];omega
   | false =>
     have HB:=Lib.hid hb
     clear hb
     go_wp2_with fail
     refine (EI s _ m _ hT (by omega) HM.out).mono ?_
     rintro e w' ⟨rfl,rfl⟩
     rw [Int.toNat_natCast,HB.out]
     go_wp2_with fail
     go_ret
     refine ⟨?_,rfl⟩
     have h1:=HK.out
     rw [X6 m _ HB.out] at h1
     exact congrArg (fun n:Int=>Ending.returned (.int .i64 n)) (by omega)
end Go.Proofs.YtkfplcngmiljaaaGreatDoor
