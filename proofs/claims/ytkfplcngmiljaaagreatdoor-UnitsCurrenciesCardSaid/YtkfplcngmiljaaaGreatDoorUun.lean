/- Part of a proof: see the last text. -/
import Derived.Test.YtkfplcngmiljaaaGreatDoorUum
import Derived.Test.YtkfplcngmiljaaaGreatDoorChecked
import Derived.WalkKit
import Derived.WalkLawsBesides
import Derived.WalkSpells
import Derived.Lib.Hide
import Derived.Laws.Rows
set_option linter.unusedVariables false
set_option linter.unusedSimpArgs false
namespace Go.Proofs.YtkfplcngmiljaaaGreatDoor
open AI Go
namespace Mo
set_option maxRecDepth 100000
set_option maxHeartbeats 4000000
theorem Kb {α β:Type} {f h:α→List β}:∀ {l:List α},(∀ a∈l,f a=h a)→l.flatMap f=l.flatMap h
 | [],_=>rfl
 | a::l,k=>by rw [List.flatMap_cons,List.flatMap_cons,k a (by simp),Kb fun b hb=>k b (by simp [hb])]
section
variable {c:Ch} (g:c.Good)
include g
omit g in
theorem Un {p:Prop} {x y:ByteArray}:c.sw (AN p x y)=AN p (c.sw x) (c.sw y):=by
 by_cases h:p
 · rw [Ag h,Ag h]
 · rw [Af h,Af h]
theorem dA {op:ByteArray} {us:List ByteArray}:IQ op (us.map c.sw)=c.sw (IQ op us):=by
 have hT:=Ch.Gi g Ch.oB
 have h0:=Ch.Gi g Ch.Ud
 have eT:∀ u,(c.sw u=A3)=(u=A3):=fun u=>propext (Ch.H9 g Ch.oB)
 have eN:∀ u,(c.sw u=By)=(u=By):=fun u=>propext (Ch.H9 g Ch.tR)
 have eM:∀ u,(c.sw u=Cm)=(u=Cm):=fun u=>propext (Ch.H9 g Ch.zK)
 have eC:∀ u,N4 (c.sw u)=N4 u:=fun u=>propext (Ch.YM g)
 have hd:(us.map c.sw).headD eS=c.sw (us.headD eS):=by cases us with | nil=>exact h0.symm | cons a l=>rfl
 have hl:(us.map c.sw).getLastD eS=c.sw (us.getLastD eS):=by
   rw [List.getLastD_eq_getLast?,List.getLastD_eq_getLast?,List.getLast?_map]
   cases us.getLast? with
   | none=>exact h0.symm
   | some a=>rfl
 have hE:(∀ u∈us.map c.sw,u=(us.map c.sw).headD eS)=(∀ u∈us,u=us.headD eS):=by
   rw [hd]
   refine propext ⟨fun h u hu=>Ch.TZ.1 (h _ (List.mem_map_of_mem hu)),fun h u hu=>?_⟩
   obtain ⟨v,hv,rfl⟩:=List.mem_map.1 hu
   rw [h v hv]
 unfold IQ
 rw [hE,hd,hl]
 unfold Vv
 simp only [Un,hT,h0,eT,eN,eM,eC]
theorem c7 {F F':ByteArray→ByteArray} {A A':Int→ByteArray} (hF:∀ x,c.gd x→F' (c.ro x)=c.sw (F x)) (hA:∀ z,A' z=c.sw (A z)) {n:Nd} (hn:nf c n) {us:List ByteArray}:Kr F' A' (D0 c n) (us.map c.sw)=c.sw (Kr F A n us):=by
 have h0:=Ch.Gi g Ch.Ud
 have hd:(us.map c.sw).headD eS=c.sw (us.headD eS):=by cases us with | nil=>exact h0.symm | cons a l=>rfl
 unfold Kr
 simp only [Un,C5,Gu,Kj,CL,dA g,hd,h0,Ch.Gi g Ch.tR,hA,propext (Ch.YM g)]
 refine iff_congr Iff.rfl (fun _=>rfl) fun W8=>iff_congr Iff.rfl (fun k=>?_) fun Vd=>?_
 · rw [QR (.inr k),hF _ (UY hn)]
 · refine iff_congr Iff.rfl (fun _=>rfl) fun _=>iff_congr Iff.rfl (fun _=>rfl) fun _=>iff_congr Iff.rfl (fun _=>rfl) fun _=>iff_congr Iff.rfl (fun k=>?_) fun _=>rfl
   rw [Gj (by omega)]
omit g in
theorem lH {n:Nd}:L0 (D0 c n)=L0 n:=by unfold L0;rw [C5]
theorem aM {F F':ByteArray→ByteArray} {A A':Int→ByteArray} (hF:∀ x,c.gd x→F' (c.ro x)=c.sw (F x)) (hA:∀ z,A' z=c.sw (A z)):∀ (m:Nat) (n:Nd),Du n≤m→nf c n→MH F' A' (D0 c n)=(c.sw (MH F A n).1,(MH F A n).2):=by
 intro m
 induction m with
 | zero=>intro n h;have:=Cu n;omega
 | succ m ih =>
   intro n h hn
   have hsz:=Cu n
   have hk:∀ k∈n.kids,MH F' A' (D0 c k)=(c.sw (MH F A k).1,(MH F A k).2):=fun k hk=>ih k (by have:=Fo hk;omega) (M3 hn hk)
   have hl:Ku F' A' (n.kids.map (D0 c))=((Ku F A n.kids).1.map c.sw,(Ku F A n.kids).2):=by
     rw [Oz,Oz,List.map_map,List.flatMap_map,List.map_map]
     refine Prod.ext (List.map_congr_left fun k h1=>?_) (Kb fun k h1=>?_)
     · show (MH F' A' (D0 c k)).1=_
       rw [hk k h1];rfl
     · rw [hk k h1]
   rw [Uo,Uo,Ds,hl]
   generalize Ku F A n.kids=r
   obtain ⟨us,ds⟩:=r
   have e0:(∀ u∈us.map c.sw,u≠eS)↔∀ u∈us,u≠eS:=by
     refine ⟨fun h u hu e=>h _ (List.mem_map_of_mem hu) ((Ch.H9 g Ch.Ud).2 e),fun h u hu=>?_⟩
     obtain ⟨v,hv,rfl⟩:=List.mem_map.1 hu
     exact fun e=>h v hv ((Ch.H9 g Ch.Ud).1 e)
   unfold ZY
   rw [c7 g hF hA hn,lH,Ox]
   show AN (∀ u∈us.map c.sw,u≠eS) _ _=_
   by_cases h1:∀ u∈us,u≠eS
   · rw [Ag (e0.2 h1),Ag (p:=∀ u∈us,u≠eS) h1]
     by_cases h2:Kr F A n us=eS
     · rw [Ag h2,Ag ((Ch.H9 g Ch.Ud).2 h2)]
     · rw [Af h2,Af fun e=>h2 ((Ch.H9 g Ch.Ud).1 e)]
   · rw [Af fun e=>h1 (e0.1 e),Af (p:=∀ u∈us,u≠eS) h1]
     show (eS,ds)=(c.sw eS,ds)
     rw [Ch.Gi g Ch.Ud]
omit g in
theorem Z2 {l:List Nd} (hl:∀ a∈l,nf c a) {x:ByteArray} (hx:c.gd x):fU 2 (l.map (D0 c)) (c.ro x)=(fU 2 l x).map c.sw:=by
 induction l with
 | nil=>rfl
 | cons a l ih =>
   rw [List.map_cons,fU,fU,ih fun k hk=>hl k (by simp [hk]),C5,CL,Gu]
   have:(a.kind=2∧c.rn a=c.ro x)↔(a.kind=2∧a.name=x):=and_congr_right fun k=>by
     rw [QR (.inl k)];exact Ch.Xt (UY (hl a (by simp))) hx
   by_cases h:a.kind=2∧a.name=x
   · rw [Ag h,Ag (this.2 h)];rfl
   · rw [Af h,Af fun e=>h (this.1 e)]
omit g in
theorem UM {l:List Nd} {x:ByteArray}:fU 3 (l.map (D0 c)) x=(fU 3 l x).map c.sw:=by
 induction l with
 | nil=>rfl
 | cons a l ih =>
   rw [List.map_cons,fU,fU,ih,C5,CL,Gu]
   have:(a.kind=3∧c.rn a=x)↔(a.kind=3∧a.name=x):=and_congr_right fun k=>by rw [Gj (by omega)]
   by_cases h:a.kind=3∧a.name=x
   · rw [Ag h,Ag (this.2 h)];rfl
   · rw [Af h,Af fun e=>h (this.1 e)]
omit g in
theorem Ze {l:List Nd} {z:Int}:fA (l.map (D0 c)) z=fA l z:=by
 induction l with
 | nil=>rfl
 | cons a l ih =>
   rw [List.map_cons,fA,fA,ih,C5,CL,Kj]
   exact iff_congr Iff.rfl (fun k=>by rw [Gj (by omega)]) fun _=>rfl
theorem UJ {o:Option ByteArray}:(o.map c.sw).getD eS=c.sw (o.getD eS):=by
 cases o with
 | none=>exact (Ch.Gi g Ch.Ud).symm
 | some a=>rfl
theorem Sh {src:Nd} (x:ByteArray):line (D0 c src) x=c.sw (line src x):=by
 unfold line
 rw [Ds,UM,UJ g]
theorem XK {src n:Nd} (hs:nf c src) (hn:nf c n):RZ (D0 c src) (D0 c n)=(c.sw (RZ src n).1,(RZ src n).2):=by
 refine aM g (fun x hx=>?_) (fun z=>?_) (Du n) n (Nat.le_refl _) hn
 · unfold fact
   rw [Ds,Z2 (fun a ha=>M3 hs ha) hx,UJ g]
 · unfold tV
   rw [Sh g,Ds,Ze]
theorem VN {src e:Nd} (hs:nf c src) (he:nf c e) (k:src.kind=1) (ke:e.kind≠1) (vs:LD src) (ve:LD e):Ix (D0 c src) (D0 c e)=(c.sw (Ix src e).1,(Ix src e).2):=by
 rw [MZ,MZ,Ag ⟨⟨by rw [C5];exact k,by rw [C5];exact ke⟩,Ug g vs,Ug g ve⟩,Ag ⟨⟨k,ke⟩,vs,ve⟩,XK g hs he]
omit g in
theorem Qo {a b:Nd} (ha:nf c a) (hb:nf c b):((D0 c b).kind=(D0 c a).kind∧(D0 c b).name=(D0 c a).name)↔(b.kind=a.kind∧b.name=a.name):=by
 rw [C5,C5,CL,CL]
 refine and_congr_right fun k=>?_
 by_cases h:a.kind=2∨a.kind=12
 · rw [QR h,QR (by rw [k];exact h)];exact Ch.Xt (UY hb) (UY ha)
 · rw [Gj h,Gj (by rw [k];exact h)]
theorem cR {b:List Nd} {a:Nd} (hb:∀ k∈b,nf c k) (ha:nf c a):J1 (b.map (D0 c)) (D0 c a)=J1 b a:=by
 have hex:(∃ k∈b.map (D0 c),k.kind=(D0 c a).kind∧k.name=(D0 c a).name)↔∃ k∈b,k.kind=a.kind∧k.name=a.name:=by
   constructor
   · rintro ⟨k,hk,h⟩
     obtain ⟨k',hk',rfl⟩:=List.mem_map.1 hk
     exact ⟨k',hk',(Qo ha (hb k' hk')).1 h⟩
   · rintro ⟨k,hk,h⟩
     exact ⟨_,List.mem_map_of_mem hk,(Qo ha (hb k hk)).2 h⟩
 unfold J1
 rw [propext hex]
 simp only [C5,Gu,Kj,Ox,MC,propext (Ch.H9 g Ch.oB),propext (Ch.YM g)]
theorem R8:∀ {l b:List Nd},(∀ k∈b,nf c k)→(∀ k∈l,nf c k)→Hq (b.map (D0 c)) (l.map (D0 c))=Hq b l
 | [],b,_,_=>rfl
 | a::l,b,hb,hl=>by
   have ha:=hl a (by simp)
   rw [List.map_cons,Hq,Hq,cR g hb ha]
   have:=R8 (l:=l) (b:=b++[a]) (fun k hk=>by
     rcases List.mem_append.1 hk with h | h
     · exact hb k h
     · rw [List.mem_singleton.1 h];exact ha) fun k hk=>hl k (by simp [hk])
   rw [List.map_append,List.map_singleton] at this
   rw [this]
theorem cX {src k:Nd} {w:ByteArray} (hs:nf c src) (hk:nf c k):QC (D0 c src) (c.sw w) (D0 c k)=QC src w k:=by
 unfold QC
 rw [XK g hs hk,Ox]
 congr 1
 refine iff_congr (and_congr (not_congr (Ch.H9 g Ch.Ud)) (and_congr (not_congr (Ch.H9 g Ch.Ud)) (not_congr Ch.TZ))) (fun _=>rfl) fun _=>rfl
theorem TV {src a x:Nd} (hs:nf c src) (ka:a.kind=4) (hx:nf c x):H7 (D0 c src) (D0 c a) (D0 c x)=H7 src a x:=by
 unfold H7
 rw [C5,Ds,List.flatMap_map,List.flatMap_map]
 refine iff_congr Iff.rfl (fun _=>Kb fun k hk=>?_) fun _=>Kb fun k hk=>?_
 · unfold Fh
   rw [Ds,Ze]
   simp only [Kj,Ox]
 · rw [CL,Gj (c:=c) (n:=a) (by omega),Sh g]
   have:AN (x.kind=6) A3 (c.sw (line src a.name))=c.sw (AN (x.kind=6) A3 (line src a.name)):=by rw [Un,Ch.Gi g Ch.oB]
   rw [this,cX g hs (M3 hx hk)]
theorem mQ {src a:Nd} {m:Nat} (hs:nf c src) (ha:nf c a):Xl (D0 c src) m (D0 c a)=Xl src m a:=by
 unfold Xl
 rw [C5]
 refine iff_congr Iff.rfl (fun k=>?_) fun _=>rfl
 congr 1
 · unfold Hr
   rw [Ds,Ze,UM,Kj,Ox,CL,Gj (c:=c) (n:=a) (by omega)]
   refine iff_congr Iff.rfl (fun _=>rfl) fun _=>iff_congr ?_ (fun _=>rfl) fun _=>rfl
   rw [Option.map_eq_none_iff]
 · rw [Ds,← List.map_tail,List.flatMap_map]
   exact Kb fun x hx=>TV g hs k (M3 ha (List.mem_of_mem_tail hx))
theorem UQ {src:Nd} (hs:nf c src):∀ {l:List Nd} {m:Nat},(∀ k∈l,nf c k)→K6 (D0 c src) m (l.map (D0 c))=K6 src m l
 | [],_,_=>rfl
 | a::l,m,hl=>by
   rw [List.map_cons,K6,K6,mQ g hs (hl a (by simp)),UQ hs fun k hk=>hl k (by simp [hk])]
   rw [show Bi 4 [D0 c a]=Bi 4 [a] from MC c 4 [a]]
theorem VO {src:Nd} (hs:nf c src) (k:src.kind=1) (vs:LD src):Lj (D0 c src)=Lj src:=by
 unfold Lj
 rw [Ag ⟨by rw [C5];exact k,Ug g vs⟩,Ag ⟨k,vs⟩]
 unfold ZG
 rw [Ds,UQ g hs fun k hk=>M3 hs hk]
 have:=R8 g (b:=[]) (l:=src.kids) (fun k hk=>by cases hk) fun k hk=>M3 hs hk
 rw [List.map_nil] at this
 rw [this]
end
theorem Nx {c:Ch} {h:Nd→Option Nd} {body:Nat→Nd→List Nd→Option (Lp (List Nd) (List Nd) Nd)} (hb:∀ i y x,body i y x=(h y).bind fun z=>LZ (x.length+1) (some (.nx (x++[z])))) :
   ∀ {l m:List Nd} {i:Nat},(∀ k∈l,h k=some (D0 c k))→m.length+l.length≤100000000→AT body (fun x=>x) l i m=some (.inl (m++l.map (D0 c)))
 | [],m,i,_,_=>by rw [AT];simp
 | a::l,m,i,hk,hl=>by
   simp only [List.length_cons] at hl
   rw [AT,hb,hk a (by simp)]
   simp only [Option.bind_some]
   rw [UU (by omega)]
   have:=Nx (c:=c) hb (l:=l) (m:=m++[D0 c a]) (i:=i+1) (fun k h=>hk k (by simp [h])) (by simp;omega)
   rw [show m++(a::l).map (D0 c)=(m++[D0 c a])++l.map (D0 c) by simp]
   exact this
theorem Xo (c:Ch):∀ (q:Nat) (n:Nd),Du n≤q→Du n≤2000→C8 n→Bc q n c.f c.t c.a c.b=some (D0 c n):=by
 intro q
 induction q with
 | zero=>intro n h;have:=Cu n;omega
 | succ q ih =>
   intro n hq h2 hok
   obtain ⟨p1,p2,p3⟩:=EL hok
   have hsz:=Cu n
   have hlen:=N7 n.kids
   have hkids:∀ k∈n.kids,Bc q k c.f c.t c.a c.b=some (D0 c k):=fun k hk=>ih k (by have:=Fo hk;omega) (by have:=Fo hk;omega) (p3 k hk)
   have E:∀ {body:Nat→Nd→List Nd→Option (Lp (List Nd) (List Nd) Nd)},(∀ i y x,body i y x=(Bc q y c.f c.t c.a c.b).bind fun z=>LZ (x.length+1) (some (.nx (x++[z]))))→Gy n.kids.length (AT body (fun x=>x) (n.kids.drop 0) 0 [])=some (.inl (n.kids.map (D0 c))):=fun hb=>by
     rw [E3 p2,List.drop_zero,Nx hb hkids (by simp;omega)]
     simp
   rw [Bc,Gt]
   rw [E (body:=fun i y x=>Dm (Bc q) c.f c.t c.a c.b i y x) (fun _ _ _=>rfl),E (body:=fun i y x=>Dk (Bc q) c.f c.t c.a c.b i y x) (fun _ _ _=>rfl),E (body:=fun i y x=>Dl (Bc q) c.f c.t c.a c.b i y x) (fun _ _ _=>rfl),E (body:=fun i y x=>B2 (Bc q) c.f c.t c.a c.b i y x) (fun _ _ _=>rfl),E (body:=fun i y x=>B4 (Bc q) c.f c.t c.a c.b i y x) (fun _ _ _=>rfl),E (body:=fun i y x=>B3 (Bc q) c.f c.t c.a c.b i y x) (fun _ _ _=>rfl)]
   rw [Hh]
   simp only [wA,oZ,Option.bind_some,GA,uV,Ch.rn,Ch.ro,Ch.sw]
   by_cases k2:n.kind=2<;>by_cases Vd:n.kind=12<;>by_cases hf:n.name=c.f<;>by_cases ha:n.unit=c.a<;>by_cases hb:n.unit=c.b<;>simp only [k2,Vd,hf,ha,hb,if_true,if_false,or_true,true_or,or_false,false_or,or_self]<;>(by_cases hab:c.b=c.a<;>simp [hab])
theorem SD (c:Ch) {n:Nd} (h2:Du n≤2000) (hok:C8 n):D9 n c.f c.t c.a c.b=some (D0 c n) :=
 MI (Du n) fun q hq=>Xo c q n hq h2 hok
end Mo
end Go.Proofs.YtkfplcngmiljaaaGreatDoor
namespace LexS
def ME (n:Nat):Nat :=
 if n=32∨n=9∨n=10∨n=13 then 1
 else if 97≤n∧n≤122 then 2
 else if 65≤n∧n≤90 then 4
 else if 48≤n∧n≤57 then 8
 else if n=95 then 16
 else 0
def cin (m:Nat) (c:UInt8):Bool:=(ME c.toNat &&& m) != 0
def BS (m:Nat) (t:List UInt8):Nat:=(t.takeWhile (cin m)).length
def IE (m:Nat) (t:List UInt8):Bool:=match t with
 | []=>false
 | c::_=>cin m c
def GK (b:Bool):List UInt8→Nat
 | []=>0
 | c::t =>
   if b then (if c=10 then 1+GK false t else 1+GK true t)
   else if cin 1 c then 1+GK false t
   else if c=47∧t.head?=some 47 then 1+GK true t
   else 0
def Fv (t:List UInt8):Nat:=GK false t
def KB (t:List UInt8) (i:Nat):Bool :=
 if i=4∨i=7 then t[i]? == some 45 else IE 8 (t.drop i)
def Ih (t:List UInt8):Bool:=decide (10≤t.length)&&(List.range 10).all (KB t)
def free (t:List UInt8):Bool:=!(IE 30 t||t.head? == some 46)
def He (t:List UInt8):Nat×Nat :=
 let d:=BS 8 t
 if Ih t then (if free (t.drop 10) then (5,10) else (0,0))
 else if t.head?=some 48∧1 < d then (0,0)
 else if (t.drop d).head?=some 46 then
   (if 10 < d∨IE 8 (t.drop (d+1))=false∨IE 8 (t.drop (d+2))=false then (0,0)
    else if free (t.drop (d+3)) then (4,d+3) else (0,0))
 else if 12 < d then (0,0)
 else if free (t.drop d) then (3,d) else (0,0)
def DJ:List (List UInt8):=[[61,61],[33,61],[60,61],[62,61],[60],[62],[43],[45],[42],[47],[40],[41],[123],[125],[58],[59],[44]]
def NO (t:List UInt8):List (List UInt8)→Nat×Nat
 | []=>(0,0)
 | y::ys=>if y.isPrefixOf t then (6,y.length) else NO t ys
def CF (t:List UInt8):Nat×Nat :=
 if IE 2 t then (if BS 30 t≤16∧BS 26 t=BS 30 t then (1,BS 30 t) else (0,0))
 else if IE 4 t then (if BS 30 t=3∧BS 4 t=BS 30 t then (2,BS 30 t) else (0,0))
 else if IE 8 t then He t
 else NO t DJ
abbrev Tok:=Nat×List UInt8×Nat
def Iy:Nat→Nat→List UInt8→List Tok
 | 0,_,_=>[]
 | n+1,o,t =>
   if t=[] then []
   else if (CF t).1=0 then [(0,[],o)]
   else ((CF t).1,t.take (CF t).2,o) ::
     Iy n (o+(CF t).2+Fv (t.drop (CF t).2)) ((t.drop (CF t).2).drop (Fv (t.drop (CF t).2)))
def C7 (s:List UInt8):List Tok:=Iy s.length (Fv s) (s.drop (Fv s))
end LexS
namespace LexS
theorem LB (m:Nat) (c:UInt8) (t:List UInt8):BS m (c::t)=if cin m c then 1+BS m t else 0:=by
 unfold BS
 rw [List.takeWhile_cons]
 by_cases h:cin m c=true
 · simp [h];omega
 · simp [h]
theorem Wo (m:Nat) (t:List UInt8):IE m (t.drop (BS m t))=false:=by
 induction t with
 | nil=>rfl
 | cons c t ih =>
   rw [LB]
   by_cases h:cin m c=true
   · rw [if_pos h,Nat.add_comm,List.drop_succ_cons];exact ih
   · rw [if_neg h,List.drop_zero];simp [IE,h]
theorem LY (m:Nat) (t:List UInt8):BS m t≤t.length:=by
 unfold BS;exact (List.takeWhile_prefix _).length_le
theorem WR (t:List UInt8):GK false t=BS 1 t+GK false (t.drop (BS 1 t)):=by
 induction t with
 | nil=>rfl
 | cons c t ih =>
   rw [LB]
   by_cases h:cin 1 c=true
   · rw [if_pos h,Nat.add_comm 1,List.drop_succ_cons,GK]
     simp only [h,Bool.false_eq_true,if_false,if_true]
     omega
   · rw [if_neg h];simp
theorem Sg (t:List UInt8) (h:[47,47].isPrefixOf t=true):GK false t=GK true t:=by
 obtain ⟨u,rfl⟩:∃ u,t=47::47::u:=by
   obtain ⟨u,hu⟩:=List.isPrefixOf_iff_prefix.1 h
   exact ⟨u,by simpa using hu.symm⟩
 rw [GK]
 conv=>rhs;rw [GK]
 simp [cin,ME]
theorem Yc (t:List UInt8) (h1:IE 1 t=false) (h:[47,47].isPrefixOf t=false):GK false t=0:=by
 cases t with
 | nil=>rfl
 | cons c t =>
   rw [GK]
   have h1':cin 1 c=false:=h1
   simp only [h1',Bool.false_eq_true,if_false]
   rw [if_neg]
   rintro ⟨rfl,h2⟩
   cases t with
   | nil=>simp at h2
   | cons d t=>simp at h2;subst h2;simp [List.isPrefixOf] at h
theorem Yi (t:List UInt8):GK true (10::t)=GK false (10::t):=by
 rw [GK,GK];simp [cin,ME]
theorem nM (c:UInt8) (t:List UInt8) (h:c≠10):GK true (c::t)=1+GK true t:=by
 rw [GK];simp [h]
theorem fD (b:Bool) (t:List UInt8):GK b t≤t.length:=by
 induction t generalizing b with
 | nil=>simp [GK]
 | cons c t ih =>
   rw [GK]
   have h1:=ih true
   have h2:=ih false
   repeat' split
   all_goals simp only [List.length_cons];omega
theorem UH (t:List UInt8):Fv t≤t.length:=fD _ _
theorem NK (b a:List UInt8):b.isPrefixOf a=(a.take b.length == b):=by
 rw [Bool.eq_iff_iff,List.isPrefixOf_iff_prefix,List.prefix_iff_eq_take,beq_iff_eq]
 exact eq_comm
end LexS
namespace LexS
theorem YF (t:List UInt8) (ys:List (List UInt8)) (h:(NO t ys).1≠0) (hy:∀ y∈ys,1≤y.length):1≤(NO t ys).2∧(NO t ys).2≤t.length:=by
 induction ys with
 | nil=>simp [NO] at h
 | cons y ys ih =>
   rw [NO] at h ⊢
   by_cases hp:y.isPrefixOf t=true
   · rw [if_pos hp]
     exact ⟨hy y (by simp),(List.isPrefixOf_iff_prefix.1 hp).length_le⟩
   · rw [if_neg hp] at h ⊢
     exact ih h (fun y' h'=>hy y' (by simp [h']))
theorem ON (m:Nat) (t:List UInt8) (h:IE m t=true):1≤BS m t:=by
 cases t with
 | nil=>simp [IE] at h
 | cons c t=>have h':cin m c=true:=h;rw [LB,if_pos h'];omega
theorem dT (c:UInt8) (m m':Nat) (h:cin m c=true) (hs:∀ k,k=0∨k=1∨k=2∨k=4∨k=8∨k=16→(k &&& m)≠0→(k &&& m')≠0):cin m' c=true:=by
 unfold cin at h ⊢
 rw [bne_iff_ne] at h ⊢
 refine hs _ ?_ h
 unfold ME
 repeat (split;simp)
 simp
theorem VB (t:List UInt8) (m m':Nat) (h:IE m t=true) (hs:∀ k,k=0∨k=1∨k=2∨k=4∨k=8∨k=16→(k &&& m)≠0→(k &&& m')≠0):IE m' t=true:=by
 cases t with
 | nil=>simp [IE] at h
 | cons c t=>exact dT c m m' h hs
theorem aQ (m:Nat) (t:List UInt8) (k:Nat) (h:IE m (t.drop k)=true):k < t.length:=by
 rcases Nat.lt_or_ge k t.length with hk | hk
 · exact hk
 · rw [List.drop_eq_nil_of_le hk] at h;simp [IE] at h
theorem Yv (t:List UInt8) (h8:IE 8 t=true) (h:(He t).1≠0):1≤(He t).2∧(He t).2≤t.length:=by
 have hd:=ON 8 t h8
 have hl:=LY 8 t
 unfold He at h ⊢
 simp only at h ⊢
 by_cases h1:Ih t=true
 · rw [if_pos h1] at h ⊢
   by_cases h2:free (t.drop 10)=true
   · rw [if_pos h2]
     have:10≤t.length:=by unfold Ih at h1;simp at h1;exact h1.1
     exact ⟨by simp,this⟩
   · rw [if_neg h2] at h;simp at h
 · rw [if_neg h1] at h ⊢
   by_cases h2:t.head?=some 48∧1 < BS 8 t
   · rw [if_pos h2] at h;simp at h
   · rw [if_neg h2] at h ⊢
     by_cases h3:(t.drop (BS 8 t)).head?=some 46
     · rw [if_pos h3] at h ⊢
       by_cases h4:10 < BS 8 t∨IE 8 (t.drop (BS 8 t+1))=false∨IE 8 (t.drop (BS 8 t+2))=false
       · rw [if_pos h4] at h;simp at h
       · rw [if_neg h4] at h ⊢
         by_cases h5:free (t.drop (BS 8 t+3))=true
         · rw [if_pos h5]
           have h6:IE 8 (t.drop (BS 8 t+2))=true:=by
             cases hh:IE 8 (t.drop (BS 8 t+2)) with
             | true=>rfl
             | false=>exact absurd (.inr (.inr hh)) h4
           have:=aQ 8 t _ h6
           exact ⟨by simp,by simp only;omega⟩
         · rw [if_neg h5] at h;simp at h
     · rw [if_neg h3] at h ⊢
       by_cases h4:12 < BS 8 t
       · rw [if_pos h4] at h;simp at h
       · rw [if_neg h4] at h ⊢
         by_cases h5:free (t.drop (BS 8 t))=true
         · rw [if_pos h5];exact ⟨hd,hl⟩
         · rw [if_neg h5] at h;simp at h
theorem Pl (t:List UInt8) (h:(CF t).1≠0):1≤(CF t).2∧(CF t).2≤t.length:=by
 have hl:=LY 30 t
 unfold CF at h ⊢
 by_cases h2:IE 2 t=true
 · have hd:=ON 30 t (VB t 2 30 h2 (by intro k hk;rcases hk with rfl | rfl | rfl | rfl | rfl | rfl<;>decide))
   rw [if_pos h2] at h ⊢
   by_cases hc:BS 30 t≤16∧BS 26 t=BS 30 t
   · rw [if_pos hc];exact ⟨hd,hl⟩
   · rw [if_neg hc] at h;simp at h
 · rw [if_neg h2] at h ⊢
   by_cases h4:IE 4 t=true
   · have hd:=ON 30 t (VB t 4 30 h4 (by intro k hk;rcases hk with rfl | rfl | rfl | rfl | rfl | rfl<;>decide))
     rw [if_pos h4] at h ⊢
     by_cases hc:BS 30 t=3∧BS 4 t=BS 30 t
     · rw [if_pos hc];exact ⟨hd,hl⟩
     · rw [if_neg hc] at h;simp at h
   · rw [if_neg h4] at h ⊢
     by_cases h8:IE 8 t=true
     · rw [if_pos h8] at h ⊢;exact Yv t h8 h
     · rw [if_neg h8] at h ⊢;exact YF t DJ h (by decide)
def Fj (s:List UInt8) (k:Nat):List Tok:=Iy (s.length - k) k (s.drop k)
theorem NG (n m o:Nat) (t:List UInt8) (hn:t.length≤n) (hm:t.length≤m):Iy n o t=Iy m o t:=by
 induction n generalizing m o t with
 | zero =>
   have:t=[]:=by cases t with | nil=>rfl | cons c t=>simp at hn
   subst this
   cases m with
   | zero=>rfl
   | succ m=>simp [Iy]
 | succ n ih =>
   cases m with
   | zero =>
     have:t=[]:=by cases t with | nil=>rfl | cons c t=>simp at hm
     subst this;simp [Iy]
   | succ m =>
     rw [Iy,Iy]
     by_cases ht:t=[]
     · rw [if_pos ht,if_pos ht]
     · rw [if_neg ht,if_neg ht]
       by_cases hz:(CF t).1=0
       · rw [if_pos hz,if_pos hz]
       · rw [if_neg hz,if_neg hz]
         have hp:=Pl t hz
         refine congrArg _ (ih m _ _ ?_ ?_)
         · simp only [List.length_drop];omega
         · simp only [List.length_drop];omega
theorem SC (s:List UInt8) (k:Nat) (h:s.length≤k):Fj s k=[]:=by
 unfold Fj
 rw [show s.length - k=0 from by omega];rfl
theorem SE (s:List UInt8) (k:Nat) (h:k < s.length) (hz:(CF (s.drop k)).1=0):Fj s k=[(0,[],k)]:=by
 unfold Fj
 obtain ⟨n,hn⟩:∃ n,s.length - k=n+1:=⟨s.length - k - 1,by omega⟩
 rw [hn,Iy,if_neg (by intro e;have:=congrArg List.length e;simp at this;omega),if_pos hz]
theorem R4 (s:List UInt8) (k:Nat) (h:k < s.length) (hz:(CF (s.drop k)).1≠0) :
   Fj s k=((CF (s.drop k)).1,(s.drop k).take (CF (s.drop k)).2,k)::Fj s (k+(CF (s.drop k)).2+Fv (s.drop (k+(CF (s.drop k)).2))):=by
 have hp:=Pl _ hz
 rw [List.length_drop] at hp
 unfold Fj
 obtain ⟨n,hn⟩:∃ n,s.length - k=n+1:=⟨s.length - k - 1,by omega⟩
 rw [hn,Iy,if_neg (by intro e;have:=congrArg List.length e;simp at this;omega),if_neg hz]
 refine congrArg _ ?_
 rw [List.drop_drop,List.drop_drop]
 refine NG _ _ _ _ ?_ ?_
 · rw [List.length_drop];omega
 · rw [List.length_drop];omega
theorem Wf (s:List UInt8):C7 s=Fj s (Fv s):=by
 unfold C7 Fj
 exact NG _ _ _ _ (by rw [List.length_drop];omega) (by rw [List.length_drop];omega)
def I4:List Tok→List Tok→List Tok×Nat×Nat
 | acc,[]=>(acc,0,0)
 | acc,x::r=>if acc.length=2000 then ([],2,x.2.2) else if x.1=0 then ([],61,x.2.2) else I4 (acc++[x]) r
def Te (s:List UInt8):List Tok×Nat×Nat:=if 6000 < s.length then ([],2,0) else I4 [] (C7 s)
def SM (l:List Tok):Prop:=l.length≤2000∧∀ x∈l,x.1≠0
theorem Nv (acc q r:List Tok) (h:SM (acc++q)):I4 acc (q++r)=I4 (acc++q) r:=by
 induction q generalizing acc with
 | nil=>simp
 | cons x q ih =>
   rw [List.cons_append,I4]
   have h1:=h.1
   rw [List.length_append,List.length_cons] at h1
   rw [if_neg (by omega),if_neg (h.2 x (by simp))]
   have:=ih (acc++[x]) (by simpa using h)
   simpa using this
end LexS
namespace Go.Proofs.YtkfplcngmiljaaaGreatDoor
open Go.RowKit LexS
def D6:Array Value:=(DJ.map fun y=>Value.string ⟨y.toArray⟩).toArray
def HQ (w:World):Prop:=(∀ i,i < 128→w.cell? ⟨2,i,none⟩=some (.int .u8 (ME i)))∧(∀ (j:Nat) v,D6.toList[j]?=some v→w.cell? ⟨0,j,none⟩=some v)
theorem HQ.ME {w:World} (h:HQ w) (i:Nat) (hi:i < 128):w.cell? ⟨2,i,none⟩=some (.int .u8 (ME i)):=by
 exact h.1 i hi
theorem HQ.M4 {w w':World} (h:HQ w) (hk:w'.heap[(2:Nat)]?=w.heap[(2:Nat)]?∧w'.heap[(0:Nat)]?=w.heap[(0:Nat)]?):HQ w':=by
 refine ⟨fun i hi=>?_,fun j v hj=>?_⟩
 · rw [World.cell?_of_block (w:=w) hk.1];exact h.1 i hi
 · rw [World.cell?_of_block (w:=w) hk.2];exact h.2 j v hj
def TB (n:Nat):Prop:=2 < n∧0 < n
theorem U8 {w:World} {g i:Nat} {v:Value} (h:w.cell? ⟨g,i,none⟩=some v):g < w.heap.size:=by
 unfold World.cell? at h
 by_cases hg:g < w.heap.size
 · exact hg
 · rw [Array.getElem?_eq_none (by simpa using hg)] at h
   cases h
theorem HQ.tb {w:World} (h:HQ w):TB w.heap.size:=⟨U8 (h.1 0 (by decide)),U8 (h.2 0 _ rfl)⟩
theorem LF {P:Program} {ops:Array Oper} {rest:List Oper} {o:Oper} {a:Act} {w:World} {Q:Exit→Act→World→Prop} (hgd:o.guard=none) (ty:TypeId) (x:Operand) (ho:o.op=.load ty x)
   (g:Nat) (hx:a.eval x=.pointer (some ⟨g,0,none⟩)) (cs:Array Value) (d:TypeDesc) (hg:∀ (j:Nat) v,cs.toList[j]?=some v→w.cell? ⟨g,j,none⟩=some v)
   (hu:P.underlying ty=some d) (hd:(match d with | .struct _ | .array _ _=>true | _=>false)=true) (hi:(P.info? ty).map (·.size)=some cs.size)
   (h:wpList P ops Q rest (a.put o.dst (.agg cs)) w):wpList P ops Q (o::rest) a w:=by
 have hl:(loadCells ⟨g,0,none⟩ cs.toList.length).run P w=.ok cs.toList.toArray w :=
   run_loadCells_list (P:=P) w ⟨g,0,none⟩ cs.toList (fun j v hv=>by
     have hadd:(⟨g,0,none⟩:Addr).add j=⟨g,j,none⟩:=by unfold Addr.add;split<;>simp_all
     rw [hadd];exact hg j v hv)
 have hrow:(loadVar ty ⟨g,0,none⟩).run P w=.ok (.agg cs) w:=by
   cases hq:P.info? ty with
   | none=>simp [hq] at hi
   | some i =>
     have hs:i.size=cs.size:=by simpa [hq] using hi
     have hagg:(isAgg ty).run P w=.ok true w:=by
       unfold isAgg
       rw [Sem.run_bind,run_underlying hu w]
       cases d<;>simp_all
     simp only [Array.length_toList,Array.toArray_toList] at hl
     simp [loadVar,Sem.run_bind,hagg,Go.sizeOf,typeInfo,hq,hs,hl]
 refine wpList_plain hgd fun _ hK=>?_
 unfold Oper.wp execOp
 simp only [ho,hx,Instr.loadAt,Instr.sureAddr,Sem.run_bind,Sem.run_pure,Result.andThen_ok,hrow]
 exact hK _ _ h
abbrev L (s:ByteArray):List UInt8:=s.data.toList
theorem JK (s:ByteArray) (k:Nat) (h:k < s.size):(L s).drop k=s[k]::(L s).drop (k+1):=by
 rw [List.drop_eq_getElem_cons (by simpa using h)];rfl
theorem OU (s:ByteArray) (k:Nat) (h:s.size≤k):(L s).drop k=[]:=by
 rw [List.drop_eq_nil_iff];simpa using h
def tE (m:Nat):Bool:=m == 1||m == 2||m == 4||m == 8||m == 26||m == 30
theorem Xj (n:Nat):ME n=0∨ME n=1∨ME n=2∨ME n=4∨ME n=8∨ME n=16:=by
 unfold ME;repeat (split;simp)
 simp
theorem ZZ (n:Nat) (h:128≤n):ME n=0:=by
 unfold ME
 rw [if_neg (by omega),if_neg (by omega),if_neg (by omega),if_neg (by omega),if_neg (by omega)]
theorem XL (n m:Nat) (hm:tE m=true):(bits BinOp.and IntKind.u8 (ME n:Int) (m:Int) != 0)=((ME n &&& m) != 0):=by
 have hm':m=1∨m=2∨m=4∨m=8∨m=26∨m=30:=by simp [tE] at hm;omega
 rcases Xj n with h | h | h | h | h | h<;>rw [h]<;>rcases hm' with rfl | rfl | rfl | rfl | rfl | rfl<;>decide
set_option maxHeartbeats 400000 in
theorem EI (s:ByteArray) (a:Int) (m:Nat) (w:World) (hT:HQ w) (h0:0≤a) (hm:tE m=true) :
   Calls Tryz.prog 124 #[.string s,.int .i64 a,.int .u8 m] w fun e w'=>e=.returned (.bool (IE m ((L s).drop a.toNat)))∧w=w':=by
 obtain ⟨k,rfl⟩:=Int.eq_ofNat_of_zero_le h0
 rw [Int.toNat_natCast]
 by_cases ha:k < s.size
 · have e1:IE m ((L s).drop k)=cin m s[k]:=by rw [JK s k ha];rfl
   have E1:=Lib.hid e1
   clear e1
   have HM:=Lib.hid hm
   clear hm
   by_cases h128:(s[k].toNat:Int) < 128
   · have hc:=hT.ME s[k].toNat (by omega)
     go_enter Tryz.func124,Tryz.ntmps124
     go_wp2
     go_ret
     refine ⟨?_,rfl⟩
     rw [E1.out]
     have:=XL s[k].toNat m HM.out
     exact congrArg (fun b=>Ending.returned (.bool b)) this
   · have e2:cin m s[k]=false:=by unfold cin;rw [ZZ _ (by omega)];simp
     have E2:=Lib.hid e2
     clear e2
     go_enter Tryz.func124,Tryz.ntmps124
     go_wp2
     go_ret
     exact ⟨by rw [E1.out,E2.out];rfl,rfl⟩
 · have e1:IE m ((L s).drop k)=false:=by rw [OU s k (by omega)];rfl
   have E1:=Lib.hid e1
   clear e1
   go_enter Tryz.func124,Tryz.ntmps124
   go_wp2
   go_ret
   exact ⟨by rw [E1.out];rfl,rfl⟩
theorem SA (m:Nat) (s:ByteArray) (k:Nat) (h:IE m ((L s).drop k)=true):k+BS m ((L s).drop k)=k+1+BS m ((L s).drop (k+1))∧k < s.size:=by
 by_cases hk:k < s.size
 · rw [JK s k hk] at h ⊢
   have h':cin m s[k]=true:=h
   refine ⟨?_,hk⟩
   unfold BS
   rw [List.takeWhile_cons,if_pos h']
   simp;omega
 · rw [OU s k (by omega)] at h;simp [IE] at h
theorem ZA (m:Nat) (t:List UInt8) (h:IE m t=false):BS m t=0:=by
 cases t with
 | nil=>rfl
 | cons c t=>unfold BS;rw [List.takeWhile_cons];have:cin m c=false:=h;simp [this]
set_option maxHeartbeats 400000 in
theorem JR (s:ByteArray) (a:Int) (m:Nat) (w:World) (hs:s.size≤9223372036854775806) (hT:HQ w) (h0:0≤a) (hm:tE m=true) :
   Calls Tryz.prog 122 #[.string s,.int .i64 a,.int .u8 m] w fun e w'=>e=.returned (.int .i64 (a+BS m ((L s).drop a.toNat):Int))∧w=w':=by
 obtain ⟨k0,rfl⟩:=Int.eq_ofNat_of_zero_le h0
 rw [Int.toNat_natCast]
 have HM:=Lib.hid hm
 clear hm
 go_enter Tryz.func122,Tryz.ntmps122
 go_wp2_with fail
 go_loop [1] (fun i=>∃ k:Nat,Hid (k+BS m ((L s).drop k)=k0+BS m ((L s).drop k0))∧i=.int .i64 k) (fun i=>s.size - (intOf i).toNat)
 case atStart=>exact ⟨k0,Lib.hid rfl,rfl⟩
 case round =>
   obtain ⟨k,HK,rfl⟩:=hrel
   cases hb:IE m ((L s).drop k) with
   | true =>
     obtain ⟨e1,hlt⟩:=SA m s k hb
     have E1:=Lib.hid e1
     clear e1
     have HB:=Lib.hid hb
     clear hb
     go_wp2_with fail
     refine (EI s _ m _ hT (by omega) HM.out).mono ?_
     rintro e w' ⟨rfl,rfl⟩
     rw [Int.toNat_natCast,HB.out]
     go_wp2_with fail
     go_round
     case rel=>exact ⟨k+1,Lib.hid (by rw [← HK.out,E1.out]),by go_num⟩
     case measure=>simp [intOf];omega
   | false =>
     have HB:=Lib.hid hb
     clear hb
     go_wp2_with fail
     refine (EI s _ m _ hT (by omega) HM.out).mono ?_
     rintro e w' ⟨rfl,rfl⟩
     rw [Int.toNat_natCast,HB.out]
     go_wp2_with fail
     go_ret
     refine ⟨?_,rfl⟩
     have h1:=HK.out
     rw [ZA m _ HB.out] at h1
     exact congrArg (fun n:Int=>Ending.returned (.int .i64 n)) (by omega)
end Go.Proofs.YtkfplcngmiljaaaGreatDoor
