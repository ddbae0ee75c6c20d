/- Part of a proof: see the last text. -/
import Derived.Test.YtkfplcngmiljaaaGreatDoorUmm
import Derived.Test.YtkfplcngmiljaaaGreatDoorChecked
import Derived.WalkKit
import Derived.WalkLawsBesides
import Derived.WalkSpells
import Derived.Lib.Hide
import Derived.Laws.Rows
set_option linter.unusedVariables false
set_option linter.unusedSimpArgs false
namespace Go.Proofs.YtkfplcngmiljaaaGreatDoor
open AI Go
namespace Mo
set_option maxRecDepth 100000
set_option maxHeartbeats 4000000
theorem MO (k:Int) (l m:List Nd):Bg k (l++m)=Bg k l+Bg k m:=by
 induction l with
 | nil=>simp [Bg]
 | cons a l ih=>simp only [List.cons_append,Bg,ih];omega
theorem Mu {ds:List Dg} (h:ds.length≤20) (e at_:Int):Ao e at_ ds=some ((),cap ds [⟨e,at_⟩]):=by rw [S7,L6 h]
structure Sr (b:List Nd) (w5:Mm ByteArray Bool) (w2:Mm Int Int) (w4:Mm ByteArray Bool):Prop where
 lines:∀ x,((w5.get x).getD false=true)↔∃ a∈b,a.kind=3∧a.name=x
 facts:∀ x,((w4.get x).getD false=true)↔∃ a∈b,a.kind=2∧a.name=x
 OM:∀ k,k=2∨k=3→(w2.get k).getD 0=((Bg k b:Nat):Int)
theorem XJ:Sr [] Mm.nil Mm.nil Mm.nil:=⟨fun x=>by simp [Mm.get_nil],fun x=>by simp [Mm.get_nil],fun k _=>by simp [Mm.get_nil,Bg]⟩
theorem WQ {b:List Nd} {w5:Mm ByteArray Bool} {w2:Mm Int Int} {w4:Mm ByteArray Bool} (h:Sr b w5 w2 w4) {a:Nd} (ha:a.kind=4):Sr (b++[a]) w5 w2 w4:=by
 refine ⟨fun x=>(h.lines x).trans ?_,fun x=>(h.facts x).trans ?_,fun k hk=>(h.OM k hk).trans ?_⟩
 · simp only [List.mem_append,List.mem_singleton]
   constructor
   · rintro ⟨c,hc,e⟩;exact ⟨c,.inl hc,e⟩
   · rintro ⟨c,hc | rfl,e⟩
     · exact ⟨c,hc,e⟩
     · omega
 · simp only [List.mem_append,List.mem_singleton]
   constructor
   · rintro ⟨c,hc,e⟩;exact ⟨c,.inl hc,e⟩
   · rintro ⟨c,hc | rfl,e⟩
     · exact ⟨c,hc,e⟩
     · omega
 · rw [MO]
   simp only [Bg]
   rw [if_neg (by omega)]
   simp
theorem W7 {b:List Nd} {w5:Mm ByteArray Bool} {w2:Mm Int Int} {w4:Mm ByteArray Bool} (h:Sr b w5 w2 w4) {a:Nd} (ha:a.kind=3) (hb:b.length < 9223372036854775807):Sr (b++[a]) (w5.set a.name true) (w2.set a.kind (BH ((w2.get a.kind).getD 0) 1)) w4:=by
 have hc:=Kl 3 b
 refine ⟨fun x=>?_,fun x=>(h.facts x).trans ?_,fun k hk=>?_⟩
 · rw [Mm.FX]
   simp only [List.mem_append,List.mem_singleton]
   by_cases e:x=a.name
   · rw [if_pos e]
     exact ⟨fun _=>⟨a,.inr rfl,ha,e.symm⟩,fun _=>rfl⟩
   · rw [if_neg e,h.lines x]
     constructor
     · rintro ⟨c,hc,q⟩;exact ⟨c,.inl hc,q⟩
     · rintro ⟨c,hc | rfl,q⟩
       · exact ⟨c,hc,q⟩
       · exact absurd q.2.symm e
 · simp only [List.mem_append,List.mem_singleton]
   constructor
   · rintro ⟨c,hc,e⟩;exact ⟨c,.inl hc,e⟩
   · rintro ⟨c,hc | rfl,e⟩
     · exact ⟨c,hc,e⟩
     · omega
 · rw [Mm.FX,ha,MO]
   simp only [Bg,ha]
   rcases hk with rfl | rfl
   · rw [if_neg (by decide),h.OM 2 (.inl rfl),if_neg (by decide)];simp
   · rw [if_pos rfl,h.OM 3 (.inr rfl),if_pos rfl]
     simp only [Option.getD_some]
     rw [CI (by omega)];omega
theorem Wz {b:List Nd} {w5:Mm ByteArray Bool} {w2:Mm Int Int} {w4:Mm ByteArray Bool} (h:Sr b w5 w2 w4) {a:Nd} (ha:a.kind=2) (hb:b.length < 9223372036854775807):Sr (b++[a]) w5 (w2.set a.kind (BH ((w2.get a.kind).getD 0) 1)) (w4.set a.name true):=by
 have hc:=Kl 2 b
 refine ⟨fun x=>(h.lines x).trans ?_,fun x=>?_,fun k hk=>?_⟩
 · simp only [List.mem_append,List.mem_singleton]
   constructor
   · rintro ⟨c,hc,e⟩;exact ⟨c,.inl hc,e⟩
   · rintro ⟨c,hc | rfl,e⟩
     · exact ⟨c,hc,e⟩
     · omega
 · rw [Mm.FX]
   simp only [List.mem_append,List.mem_singleton]
   by_cases e:x=a.name
   · rw [if_pos e]
     exact ⟨fun _=>⟨a,.inr rfl,ha,e.symm⟩,fun _=>rfl⟩
   · rw [if_neg e,h.facts x]
     constructor
     · rintro ⟨c,hc,q⟩;exact ⟨c,.inl hc,q⟩
     · rintro ⟨c,hc | rfl,q⟩
       · exact ⟨c,hc,q⟩
       · exact absurd q.2.symm e
 · rw [Mm.FX,ha,MO]
   simp only [Bg,ha]
   rcases hk with rfl | rfl
   · rw [if_pos rfl,h.OM 2 (.inl rfl),if_pos rfl]
     simp only [Option.getD_some]
     rw [CI (by omega)];omega
   · rw [if_neg (by decide),h.OM 3 (.inr rfl),if_neg (by decide)];simp
theorem PZ:∀ {l b:List Nd} {i:Nat} {w5:Mm ByteArray Bool} {w2:Mm Int Int} {w4:Mm ByteArray Bool} {ds:List Dg},Sr b w5 w2 w4→(∀ a∈l,a.kind=2∨a.kind=3∨a.kind=4)→b.length+l.length≤9223372036854775807→ds.length≤20 →
   ∃ x5 x2 x4,AL (fun i y x=>Bw i y x.1 x.2.1 x.2.2.1 x.2.2.2) (fun x=>(x.1,x.2.1,x.2.2.1,x.2.2.2)) l i (w5,w2,ds,w4)=(some (.inl (x5,x2,cap ds (Ga b l),x4)):Option ((Mm ByteArray Bool×Mm Int Int×List Dg×Mm ByteArray Bool)⊕(Unit×List Dg)))
 | [],b,i,w5,w2,w4,ds,_,_,_,hd=>⟨w5,w2,w4,by rw [Ga,Dr hd];rfl⟩
 | a::l,b,i,w5,w2,w4,ds,hI,hk,hl,hd=>by
   simp only [List.length_cons] at hl
   have next:∀ {x5:Mm ByteArray Bool} {x2:Mm Int Int} {x4:Mm ByteArray Bool} {d2:List Dg},Sr (b++[a]) x5 x2 x4→d2=cap ds (IA b a) →
       ∃ y5 y2 y4,(some (Lp.nx (x5,x2,d2,x4))).bind (Gj (AL (fun i y x=>Bw i y x.1 x.2.1 x.2.2.1 x.2.2.2) (fun x=>(x.1,x.2.1,x.2.2.1,x.2.2.2)) l (i+1)))=(some (.inl (y5,y2,cap ds (Ga b (a::l)),y4)):Option ((Mm ByteArray Bool×Mm Int Int×List Dg×Mm ByteArray Bool)⊕(Unit×List Dg))):=by
     rintro x5 x2 x4 d2 h rfl
     obtain ⟨y5,y2,y4,e⟩:=PZ (l:=l) (b:=b++[a]) (i:=i+1) (w5:=x5) (w2:=x2) (w4:=x4) (ds:=cap ds (IA b a)) h (fun k hk'=>hk k (by simp [hk'])) (by simp;omega) (C5 _ _)
     exact ⟨y5,y2,y4,by rw [Ga,← DF];exact e⟩
   rw [AL,Bw]
   simp only [Bu,EH,B8,Sh,Mu hd,Option.bind_some,rF,Gu]
   rcases hk a (by simp) with k2 | k3 | k4
   · rw [Ad (by omega),Ad (by omega),Ag k2]
     have hI':=Wz hI k2 (by omega)
     have ed:∀ {x y:List Dg},IA b a=AQ (∃ c∈b,c.kind=2∧c.name=a.name) [⟨5,a.att⟩] (AQ (32≤Bg 2 b) [⟨2,a.att⟩] []):=by
       intro _ _
       unfold IA
       rw [Ag (.inl k2),k2]
       congr 2
       exact Ad fun q=>by omega
     by_cases h5:((w4.get a.name).getD false=true)
     · rw [Ag h5]
       refine next hI' ?_
       rw [ed (x:=[]) (y:=[]),Ag ((hI.facts _).1 h5)]
     · rw [Ad h5]
       have hn:=fun q=>h5 ((hI.facts _).2 q)
       rw [Mm.FX,if_pos rfl,k2,hI.OM 2 (.inl rfl)]
       simp only [Option.getD_some]
       have hc:=Kl 2 b
       rw [CI (by omega)]
       by_cases h32:32≤Bg 2 b
       · rw [Ag (by omega)]
         rw [k2,hI.OM 2 (.inl rfl),CI (by omega)] at hI'
         refine next hI' ?_
         rw [ed (x:=[]) (y:=[]),Ad hn,Ag h32]
       · rw [Ad (by omega)]
         rw [k2,hI.OM 2 (.inl rfl),CI (by omega)] at hI'
         refine next hI' ?_
         rw [ed (x:=[]) (y:=[]),Ad hn,Ad h32,Dr hd]
   · rw [Ad (by omega),Ag k3]
     have hI':=W7 hI k3 (by omega)
     have ed:∀ {x y:List Dg},IA b a=AQ (∃ c∈b,c.kind=3∧c.name=a.name) [⟨5,a.att⟩] (AQ (32≤Bg 3 b) [⟨2,a.att⟩] (AQ (a.unit=AO∨(a.n≠4∧¬ aJ a.unit)) [⟨11,a.att⟩] [])):=by
       intro _ _
       unfold IA
       rw [Ag (.inr k3),k3]
       simp only [true_and]
     by_cases h5:((w5.get a.name).getD false=true)
     · rw [Ag h5]
       refine next hI' ?_
       rw [ed (x:=[]) (y:=[]),Ag ((hI.lines _).1 h5)]
     · rw [Ad h5]
       have hn:=fun q=>h5 ((hI.lines _).2 q)
       rw [Mm.FX,if_pos rfl,k3,hI.OM 3 (.inr rfl)]
       simp only [Option.getD_some]
       have hc:=Kl 3 b
       rw [CI (by omega)]
       rw [k3,hI.OM 3 (.inr rfl),CI (by omega)] at hI'
       by_cases h32:32≤Bg 3 b
       · rw [Ag (by omega)]
         refine next hI' ?_
         rw [ed (x:=[]) (y:=[]),Ad hn,Ag h32]
       · rw [Ad (by omega)]
         by_cases ht:a.unit=AO
         · rw [Ag ht]
           refine next hI' ?_
           rw [ed (x:=[]) (y:=[]),Ad hn,Ad h32,Ag (.inl ht)]
         · rw [Ad ht]
           by_cases h4:a.n=4
           · rw [Ag h4]
             refine next hI' ?_
             rw [ed (x:=[]) (y:=[]),Ad hn,Ad h32,Ad (fun q=>q.elim ht fun r=>r.1 h4),Dr hd]
           · rw [Ad h4]
             by_cases hc2:aJ a.unit
             · rw [Ag hc2]
               refine next hI' ?_
               rw [ed (x:=[]) (y:=[]),Ad hn,Ad h32,Ad (fun q=>q.elim ht fun r=>r.2 hc2),Dr hd]
             · rw [Ad hc2]
               refine next hI' ?_
               rw [ed (x:=[]) (y:=[]),Ad hn,Ad h32,Ag (.inr ⟨h4,hc2⟩)]
   · rw [Ag k4]
     refine next (WQ hI k4) ?_
     have:IA b a=[]:=by unfold IA;rw [Ad (by omega)]
     rw [this,Dr hd]
theorem gD {n:Nd} (hok:DC n) (hk:∀ a∈n.kids,a.kind=2∨a.kind=3∨a.kind=4):B7 n []=some ((),cap [] (Ga [] n.kids)):=by
 obtain ⟨hps,hkl,hks⟩:=Fa hok
 obtain ⟨x5,x2,x4,e⟩:=PZ (l:=n.kids) (b:=[]) (i:=0) (ds:=[]) XJ hk (by simp;omega) (by simp)
 rw [B7,DJ hkl,List.drop_zero,e]
 rfl
theorem N4 {src a:Nd}:∀ {l:List Nd} {i:Nat} {ds:List Dg},ds.length≤20→AL (fun i y x=>By (Rr src) a i y x) (fun x=>x) l i ds=(some (.inl (cap ds (l.flatMap (Ff src a)))):Option (List Dg⊕(Unit×List Dg)))
 | [],i,ds,hd=>by rw [List.flatMap_nil,Dr hd];rfl
 | k::l,i,ds,hd=>by
   rw [AL,By,List.flatMap_cons,← DF]
   simp only [Bu,Mu hd,Option.bind_some,rF,Gu,Sz]
   have next:∀ {d2:List Dg},d2=cap ds (Ff src a k)→(some (Lp.nx d2)).bind (Gj (AL (fun i y x=>By (Rr src) a i y x) (fun x=>x) l (i+1)))=(some (.inl (cap (cap ds (Ff src a k)) (l.flatMap (Ff src a)))):Option (List Dg⊕(Unit×List Dg))):=by
     rintro _ rfl
     exact N4 (C5 _ _)
   unfold Ff
   by_cases h:k.n=a.n
   · rw [Ag h]
     have:=next (d2:=cap ds [⟨101,k.att⟩]) (by unfold Ff;rw [Ag h])
     unfold Ff at this
     rw [Ag h] at this ⊢
     exact this
   · rw [Ad h]
     by_cases h2:(fA src.kids k.n).isSome=true
     · rw [Ag h2]
       have hn:¬ fA src.kids k.n=none:=fun e=>by rw [e] at h2;cases h2
       have:=next (d2:=ds) (by unfold Ff;rw [Ad h,Ad hn,Dr hd])
       unfold Ff at this
       rw [Ad h] at this ⊢
       exact this
     · rw [Ad h2]
       have hn:fA src.kids k.n=none:=by simpa using h2
       have:=next (d2:=cap ds [⟨91,k.att⟩]) (by unfold Ff;rw [Ad h,Ag hn])
       unfold Ff at this
       rw [Ad h] at this ⊢
       exact this
theorem ZY {src a x:Nd} (hok:DC x) (hc:Bz x) (hs:Ef x≤2000) (h68:x.kind=6∨x.kind=7∨x.kind=8) {ds:List Dg} (hd:ds.length≤20):A4 (Rr src) a x ds=some ((),cap ds (Hx src a x)):=by
 obtain ⟨hps,hkl,hks⟩:=Fa hok
 rw [A4]
 simp only [Bu,B8,rF,Gu,P8]
 unfold Hx
 by_cases k7:x.kind=7
 · rw [Ag k7,Ag k7,DJ hkl,List.drop_zero,N4 hd];rfl
 rw [Ad k7,Ad k7]
 obtain ⟨h1,h2⟩:=hc.2.2 k7
 have hsz:=Dz x
 generalize x.kids=ks at *
 match ks,h1 with
 | [k],_ =>
 have hek:=h2 k (by simp)
 have hsk:Ef k≤2000:=by simp [Iv] at hsz;omega
 simp only [List.getElem?_cons_zero,Option.bind_some,List.flatMap_cons,List.flatMap_nil,List.append_nil]
 rw [Vq hek hsk,RD src k hd]
 simp only [Option.bind_some]
 rw [Mu (C5 _ _)]
 simp only [Option.bind_some,DF]
 have key:∀ w:ByteArray,AQ ((Im src k).1=ByteArray.empty) (some ((),cap ds (Im src k).2)) (AQ (w=ByteArray.empty) (some ((),cap ds (Im src k).2)) (AQ ((Im src k).1=w) (some ((),cap ds (Im src k).2)) (some ((),cap ds ((Im src k).2++[⟨11,k.att⟩])))))=some ((),cap ds (TC src w k)):=by
   intro w
   unfold TC
   by_cases a1:(Im src k).1=eS
   · rw [Ag a1,Ad fun q=>q.1 a1,List.append_nil]
   rw [Ad a1]
   by_cases a2:w=eS
   · rw [Ag a2,Ad fun q=>q.2.1 a2,List.append_nil]
   rw [Ad a2]
   by_cases a3:(Im src k).1=w
   · rw [Ag a3,Ad fun q=>q.2.2 a3,List.append_nil]
   rw [Ad a3,Ag ⟨a1,a2,a3⟩]
 by_cases k6:x.kind=6
 · rw [Ag k6,Ag k6];exact key AO
 · rw [Ad k6,Ad k6];exact key (line src a.name)
theorem M6 {src a:Nd} {body:Nat→Nd→List Dg→Option (Lp (List Dg) (List Dg) (List Dg))} (hb:∀ i y x,body i y x=(A4 (Rr src) a y x).bind fun (_,b)=>some (.nx b)) :
   ∀ {l:List Nd} {i:Nat} {ds:List Dg},(∀ x∈l,DC x∧Bz x∧Ef x≤2000∧(x.kind=6∨x.kind=7∨x.kind=8))→ds.length≤20→AL body (fun x=>x) l i ds=(some (.inl (cap ds (l.flatMap (Hx src a)))):Option (List Dg⊕List Dg))
 | [],i,ds,_,hd=>by rw [List.flatMap_nil,Dr hd];rfl
 | x::l,i,ds,h,hd=>by
   obtain ⟨h1,h2,h3,h4⟩:=h x (by simp)
   rw [AL,hb,ZY h1 h2 h3 h4 hd,List.flatMap_cons,← DF]
   exact M6 hb (fun y hy=>h y (by simp [hy])) (C5 _ _)
theorem Ns {src:Nd}:∀ {l:List Nd} {i:Nat} {c:Nat} {ds:List Dg},(∀ a∈l,DC a∧Gg a∧Ef a≤2000)→c+l.length≤9223372036854775807→ds.length≤20→∃ z,AL (fun i y x=>Eu (Rr src) i y x.1 x.2) (fun x=>x.2) l i (((c:Nat):Int),ds)=(some (.inl z):Option (List Dg⊕List Dg))∧z=cap ds (LN src c l)
 | [],i,c,ds,_,_,hd=>⟨ds,rfl,by rw [LN,Dr hd]⟩
 | a::l,i,c,ds,h,hc,hd=>by
   simp only [List.length_cons] at hc
   obtain ⟨hok,hit,hsz⟩:=h a (by simp)
   obtain ⟨hps,hkl,hks⟩:=Fa hok
   rw [AL,Eu,LN,← DF]
   simp only [Bu,EH,B8,rF,Gu,Mu hd,Option.bind_some,P8,Sz]
   unfold nN
   by_cases k4:a.kind=4
   rotate_left
   · rw [Ad k4,Ad k4,Dr hd]
     have e:c+Bg 4 [a]=c:=by simp [Bg,k4]
     rw [e]
     exact Ns (fun y hy=>h y (by simp [hy])) (by omega) hd
   rw [Ag k4,Ag k4]
   obtain ⟨_,_,_,x,cs,hkids,hkin,_,_,_,hcl⟩:=(vQ k4).1 hit
   have e:c+Bg 4 [a]=c+1:=by simp [Bg,k4]
   rw [e]
   have hcs:∀ y∈cs,DC y∧Bz y∧Ef y≤2000∧(y.kind=6∨y.kind=7∨y.kind=8):=by
     intro y hy
     have hm:y∈a.kids:=by rw [hkids];simp [hy]
     have:=hkin y hy
     exact ⟨hks y hm,hcl y hy,by have:=M9 hm;omega,by omega⟩
   have hsub:Ku a.kids 1 ((a.kids.length:Nat):Int)=some cs:=by
     unfold Ku
     rw [hkids,if_pos (by simp only [List.length_cons];omega)]
     simp
   have hcl':cs.length≤9223372036854775807:=by rw [hkids] at hkl;simp at hkl;omega
   rw [hsub]
   simp only [Option.bind_some,List.drop_zero,DJ hcl']
   rw [CI (by omega)]
   have htail:a.kids.tail=cs:=by rw [hkids];rfl
   rw [htail]
   have next:∀ {body:Nat→Nd→List Dg→Option (Lp (List Dg) (List Dg) (List Dg))} {d0:List Dg},(∀ i y x,body i y x=(A4 (Rr src) a y x).bind fun (_,b)=>some (.nx b))→d0=cap ds (GX src c a) →
       ∃ z,(((AL body (fun x=>x) cs 0 d0).bind (Ii (fun (w:List Dg)=>some (Lp.nx (((c:Nat):Int)+1,w))) (fun v=>some (.rt v)))).bind (Gj (AL (fun i y x=>Eu (Rr src) i y x.1 x.2) (fun x=>x.2) l (i+1))))=(some (.inl z):Option (List Dg⊕List Dg))∧z=cap (cap ds (GX src c a++cs.flatMap (Hx src a))) (LN src (c+1) l):=by
     rintro body _ hb rfl
     rw [M6 hb hcs (C5 _ _),DF]
     have ih:=Ns (src:=src) (l:=l) (i:=i+1) (c:=c+1) (ds:=cap ds (GX src c a++cs.flatMap (Hx src a))) (fun y hy=>h y (by simp [hy])) (by omega) (C5 _ _)
     rw [show (((c+1:Nat)):Int)=((c:Nat):Int)+1 by omega] at ih
     exact ih
   unfold GX
   by_cases hl:(fU 3 src.kids a.name).isSome=true
   · have hn:¬ fU 3 src.kids a.name=none:=fun e=>by rw [e] at hl;cases hl
     rw [Ag hl]
     by_cases h60:60≤c
     · rw [Ag (by omega),Ag h60]
       have:=next (body:=fun i y x=>G7 (Rr src) a i y x) (d0:=cap ds [⟨2,a.att⟩]) (fun i y x=>rfl) (by unfold GX;rw [Ag h60])
       unfold GX at this
       rw [Ag h60] at this
       exact this
     · rw [Ad (by omega),Ad h60,Ad hn]
       by_cases hA:(fA src.kids a.n).getD ByteArray.empty=a.name
       · rw [Ag hA]
         have:=next (body:=fun i y x=>GN (Rr src) a i y x) (d0:=ds) (fun i y x=>rfl) (by unfold GX;rw [Ad h60,Ad hn,Ad (fun q=>q hA),Dr hd])
         unfold GX at this
         rw [Ad h60,Ad hn] at this
         exact this
       · rw [Ad hA]
         have:=next (body:=fun i y x=>GR (Rr src) a i y x) (d0:=cap ds [⟨101,a.att⟩]) (fun i y x=>rfl) (by unfold GX;rw [Ad h60,Ad hn,Ag hA])
         unfold GX at this
         rw [Ad h60,Ad hn] at this
         exact this
   · have hn:fU 3 src.kids a.name=none:=by simpa using hl
     rw [Ad hl]
     by_cases h60:60≤c
     · rw [Ag (by omega),Ag h60]
       have:=next (body:=fun i y x=>GP (Rr src) a i y x) (d0:=cap ds [⟨2,a.att⟩]) (fun i y x=>rfl) (by unfold GX;rw [Ag h60])
       unfold GX at this
       rw [Ag h60] at this
       exact this
     · rw [Ad (by omega),Ad h60,Ag hn]
       have:=next (body:=fun i y x=>G4 (Rr src) a i y x) (d0:=cap ds [⟨91,a.att⟩]) (fun i y x=>rfl) (by unfold GX;rw [Ad h60,Ag hn])
       unfold GX at this
       rw [Ad h60,Ag hn] at this
       exact this
theorem gM {n:Nd} (h:N7 n) (hk:n.kind=1):Dm n z0∧(∀ k∈n.kids,Gg k)∧Ef n≤2000∧Lv n≤40:=by
 obtain ⟨a | a,b⟩:=h
 · exact ⟨a.2.1,a.2.2,b⟩
 · exact absurd hk a.1
theorem dX {src:Nd} (hs:DC src):Gm src=some (Nu src):=by
 obtain ⟨hps,hkl,hks⟩:=Fa hs
 rw [Gm,Sa hs,VE hs]
 simp only [Option.bind_some,Bu,Bo]
 unfold Nu
 by_cases k1:src.kind=1
 rotate_left
 · rw [Ad k1,Ad fun q=>k1 q.1]
 rw [Ag k1]
 by_cases v:N7 src
 rotate_left
 · rw [Ad v,Ad fun q=>v q.2]
 rw [Ag v,Ag ⟨k1,v⟩]
 obtain ⟨_,hit,hsz,_⟩:=gM v k1
 have hkind:∀ a∈src.kids,a.kind=2∨a.kind=3∨a.kind=4:=fun a ha=>SB (hit a ha)
 rw [show Dv=some () from rfl,gD hs hkind]
 simp only [Option.bind_some]
 rw [DJ hkl,List.drop_zero]
 obtain ⟨z,e,rfl⟩:=Ns (src:=src) (l:=src.kids) (i:=0) (c:=0) (ds:=cap [] (Ga [] src.kids)) (fun a ha=>⟨hks a ha,hit a ha,by have:=M9 ha;omega⟩) (by omega) (C5 _ _)
 have e':(((0:Nat):Int))=0:=rfl
 rw [e'] at e
 rw [e,DF]
 rfl
end Mo
end Go.Proofs.YtkfplcngmiljaaaGreatDoor

namespace Go.Proofs.YtkfplcngmiljaaaGreatDoor
open AI Go
namespace Mo
set_option maxRecDepth 100000
set_option maxHeartbeats 4000000
theorem VU (c:Int):E6 c=some (mb (97≤c∧c≤122)):=by
 rw [E6];simp only [F6,Bo,GF,EC]
theorem eX (c:Int):Ge c=some (mb (48≤c∧c≤57)):=by
 rw [Ge];simp only [F6,Bo,GF,EC]
theorem fC (c:Int):Ej c=some (mb (65≤c∧c≤90)):=by
 rw [Ej];simp only [F6,Bo,GF,EC]
theorem I4 (n a b:Int):AZ n a b=some (mb (a≤n∧n≤b)):=by
 rw [AZ];simp only [F6,Bo,GF,EC]
theorem kR (l:List ByteArray) (s:ByteArray) (hl:l.length≤9223372036854775807):Fz l s=some (mb (s∈l)):=by
 unfold Fz
 rw [Io (v:=true) (P:=fun _ y=>¬ y=s) hl (fun i y _=>by
   unfold Js
   simp only [B8,Bo,WA])]
 simp only [mE]
 refine Ke ?_
 constructor
 · intro h
   exact Classical.byContradiction fun hn=>h fun i y hy e=>hn (e▸List.mem_of_getElem? hy)
 · intro h hn
   obtain ⟨i,hi⟩:=List.getElem?_of_mem h
   exact hn i s hi rfl
theorem jH (s:ByteArray):Fv s=some (mb (UA s)):=by
 rw [Fv,Bu,Bo]
 unfold UA
 by_cases h:s.data.toList.length=3
 · rw [Ag (by omega)]
   generalize s.data.toList=l at h
   match l,h with
   | [a,b,c],_ =>
     simp only [List.getElem?_cons_zero,List.getElem?_cons_succ,Option.bind_some,fC,Bo,EC]
     refine Ke ?_
     simp only [List.length_cons,List.length_nil,List.mem_cons,List.not_mem_nil,or_false,true_and,forall_eq_or_imp,forall_eq]
     omega
 · rw [Ad (by omega)]
   exact H9 fun q=>h q.1
theorem YY (s:ByteArray):FW s=some (mb (Hb s)):=by
 rw [FW]
 simp only [EH,Bo]
 unfold Hb
 by_cases h0:((s.data.toList.length:Nat):Int) < 1
 · rw [Ag h0];exact H9 fun h=>by omega
 rw [Ad h0]
 by_cases h1:16 < ((s.data.toList.length:Nat):Int)
 · rw [Ag h1];exact H9 fun h=>by omega
 rw [Ad h1]
 obtain ⟨b,hb⟩:∃ b,s.data.toList[0]?=some b:=⟨_,List.getElem?_eq_getElem (by omega)⟩
 rw [hb,show IH=some V7 from rfl]
 simp only [Option.bind_some,VU,Bo]
 rw [kR _ _ (by decide),Io (v:=false) (P:=fun _ y=>TJ y) (by omega) (fun i y _=>by
   simp only [Hu,VU,eX,Option.bind_some,Bo,Bu,SD,sC]
   congr 2
   unfold TJ
   apply propext
   omega)]
 simp only [Option.bind_some,Bo,GF,ZK,EC,Mb]
 refine Ke ?_
 constructor
 · rintro ⟨h3,h5,h6⟩
   exact ⟨by omega,⟨b,rfl,by omega⟩,h5,h6⟩
 · rintro ⟨h3,⟨c,hc,h4⟩,h5,h6⟩
   cases hc
   exact ⟨by omega,h5,h6⟩
def zD (n:Nd):Prop:=n.fr=0∧n.to=0∧n.known=0
def zT (n:Nd):Prop:=n.tab.den=0∧n.tab.ps=[]
theorem R9 {α:Type} (l:List α):(((l.length:Nat):Int)=0)=(l=[]):=propext ⟨fun h=>List.eq_nil_of_length_eq_zero (by omega),fun h=>by rw [h];rfl⟩
section
variable (n:Nd)
theorem Sl:Dd n=some (mb (n.name=eS∧n.unit=eS∧n.n=0∧zD n∧zT n)):=by
 rw [Dd];simp only [Bu,B8,Bo,GF,EC,R9,zD,zT];exact Ke (by simp only [and_assoc])
theorem Za:D3 n=some (mb (n.name=eS∧zD n∧zT n∧n.kids=[])):=by
 rw [D3];simp only [Bu,B8,Bo,GF,EC,R9,zD,zT];exact Ke (by simp only [and_assoc])
theorem kP:D4 n=some (mb (n.unit=eS∧n.n=0∧zD n∧zT n∧n.kids=[])):=by
 rw [D4];simp only [Bu,B8,Bo,GF,EC,R9,zD,zT];exact Ke (by simp only [and_assoc])
theorem kO:EY n=some (mb (n.name=eS∧n.unit=eS∧zD n∧zT n∧n.kids=[])):=by
 rw [EY];simp only [Bu,B8,Bo,GF,EC,R9,zD,zT];exact Ke (by simp only [and_assoc])
theorem cA:DP n=some (mb (n.unit=eS∧n.n=0∧zD n∧zT n)):=by
 rw [DP];simp only [Bu,B8,Bo,GF,EC,R9,zD,zT];exact Ke (by simp only [and_assoc])
theorem fB:Es n=some (mb (n.name=eS∧n.unit=eS∧n.n=0∧zD n)):=by
 rw [Es];simp only [Bu,B8,Bo,GF,EC,zD]
theorem nH:C2 n=some (mb (n.n=0∧zD n∧zT n∧n.kids=[])):=by
 rw [C2];simp only [Bu,B8,Bo,GF,EC,R9,zD,zT];exact Ke (by simp only [and_assoc])
theorem kX:C3 n=some (mb (zD n∧zT n∧n.kids=[])):=by
 rw [C3];simp only [Bu,B8,Bo,GF,EC,R9,zD,zT];exact Ke (by simp only [and_assoc])
theorem gU:CM n=some (mb (n.unit=eS∧zD n∧zT n)):=by
 rw [CM];simp only [Bu,B8,Bo,GF,EC,R9,zD,zT];exact Ke (by simp only [and_assoc])
theorem fK:Ez n=some (mb (n.name=eS∧n.unit=eS∧zT n∧n.kids=[])):=by
 rw [Ez];simp only [Bu,B8,Bo,GF,EC,R9,zT];exact Ke (by simp only [and_assoc])
end
theorem Us {α:Type} {l:List α}:l.length=0↔l=[]:=List.length_eq_zero_iff
theorem OR {a d m:Int} (hd:0 < d) (h:a.tmod d=0):(-m≤a.tdiv d∧a.tdiv d≤m)↔(-(m*d)≤a∧a≤m*d):=by
 have e:d*a.tdiv d=a:=Int.mul_tdiv_cancel' (Int.dvd_of_tmod_eq_zero h)
 generalize a.tdiv d=q at *
 subst e
 constructor
 · rintro ⟨h1,h2⟩
   have a1:=Int.mul_le_mul_of_nonneg_left h1 (Int.le_of_lt hd)
   have a2:=Int.mul_le_mul_of_nonneg_left h2 (Int.le_of_lt hd)
   rw [Int.mul_neg,Int.mul_comm d m] at a1
   rw [Int.mul_comm d m] at a2
   exact ⟨a1,a2⟩
 · rintro ⟨h1,h2⟩
   rw [Int.mul_comm m d] at h1 h2
   refine ⟨Int.le_of_mul_le_mul_left ?_ hd,Int.le_of_mul_le_mul_left h2 hd⟩
   rw [Int.mul_neg];exact h1
theorem dY (f:Fn) (hf:cS f):Gk f=some (mb (UR f)):=by
 obtain ⟨hl,hpc⟩:=hf
 rw [Gk,I4,I4]
 simp only [Option.bind_some,Bo]
 by_cases hr:1≤f.den∧f.den≤1000000
 rotate_left
 · rw [Ad hr];exact H9 fun q=>hr q.1
 rw [Ag hr]
 by_cases hn:1≤((f.ps.length:Nat):Int)∧((f.ps.length:Nat):Int)≤64
 rotate_left
 · rw [Ad hn];exact H9 fun q=>hn ⟨by have:=q.2.1;omega,by have:=q.2.1;omega⟩
 rw [Ag hn,Io (v:=false) (P:=fun i y=>MY f i y∧(i=0→y.fr=0)) hl (fun i y hy=>by
   have hi:i < f.ps.length:=(List.getElem?_eq_some_iff.1 hy).1
   obtain ⟨_,hat,_⟩:=hpc y (List.mem_of_getElem? hy)
   have hden:f.den≠0:=by omega
   have hd0:0 < f.den:=by omega
   have hm:Qz y.att f.den=some (y.att.tmod f.den):=by unfold Qz oT;rw [if_neg hden]
   have hq:Yu y.att f.den=some (y.att.tdiv f.den):=by
     unfold Yu lA
     rw [if_neg hden]
     have h1:(y.att.tdiv f.den).natAbs≤y.att.natAbs:=Int.natAbs_tdiv_le_natAbs _ _
     have h3:-9223372036854775808≤y.att.tdiv f.den∧y.att.tdiv f.den≤9223372036854775807:=by
       by_cases hneg:f.den=1
       · rw [hneg,Int.tdiv_one];exact hat
       · have h2:y.att.natAbs≤9223372036854775808:=by omega
         have h4:(y.att.tdiv f.den).natAbs < 9223372036854775808:=by
           rw [Int.natAbs_tdiv]
           have h5:2≤f.den.natAbs:=by omega
           have:y.att.natAbs / f.den.natAbs≤y.att.natAbs / 2:=Nat.div_le_div_left h5 (by decide)
           have h6:y.att.natAbs / 2≤9223372036854775808 / 2:=Nat.div_le_div_right h2
           exact Nat.lt_of_le_of_lt (Nat.le_trans this h6) (by decide)
         omega
     congr 1
     have h7:=M8 h3
     rw [Mn] at h7
     exact h7
   have hwm1:QA 999999999999 f.den=999999999999*f.den:=Vr (by omega)
   have hwm2:QA (-999999999999) f.den=-(999999999999*f.den):=by rw [Vr (by omega)];omega
   simp only [GZ,hm,hq,I4,Option.bind_some,Bu,EH,F6,Bo]
   unfold MY
   rw [hm,hwm1,hwm2]
   by_cases h0:i=0
   · subst h0
     rw [Ag (show (((0:Nat):Int)=0) from rfl)]
     simp only [SD,WO,X1]
     congr 2
     apply propext
     simp only [Option.some.injEq,Nat.lt_irrefl,false_implies,implies_true,true_and]
     constructor
     · rintro ⟨a,b,c,d,e⟩
       have:=(OR (m:=999999999999) hd0 a).1 b
       exact ⟨⟨by omega,a,this.2,this.1,c.2,c.1⟩,fun _=>e⟩
     · rintro ⟨⟨a,b,c,d,e,g⟩,h⟩
       exact ⟨b,(OR hd0 b).2 ⟨d,c⟩,⟨g,e⟩,by omega,h trivial⟩
   · rw [Ad (show ¬ (((i:Nat):Int)=0) by omega),Ag (show (0:Int) < ((i:Nat):Int) by omega),ML (by omega)]
     obtain ⟨pv,hpq⟩:∃ pv,f.ps[i - 1]?=some pv:=⟨_,List.getElem?_eq_getElem (by omega)⟩
     have hg:LC f.ps (((i:Nat):Int) - 1)=some pv:=by
       unfold LC
       rw [show (((i:Nat):Int) - 1).toNat=i - 1 by omega,if_pos (by omega)]
       exact hpq
     rw [hg,hpq]
     simp only [Option.bind_some,WA,WO,X1]
     congr 2
     apply propext
     simp only [Option.some.injEq,forall_eq']
     constructor
     · rintro ⟨a,b,c,d,e⟩
       have:=(OR (m:=999999999999) hd0 a).1 b
       exact ⟨⟨by omega,fun q _ e=>by subst e;omega,a,this.2,this.1,c.2,c.1⟩,fun q=>absurd q h0⟩
     · rintro ⟨⟨a,p,b,c,d,e,g⟩,h⟩
       exact ⟨b,(OR hd0 b).2 ⟨d,c⟩,⟨g,e⟩,by omega,by have:=p pv (by omega) rfl;omega⟩),GF]
 refine Ke ?_
 unfold UR E8
 constructor
 · intro h
   exact ⟨hr,by omega,fun x hx=>(h 0 x hx).2 rfl,fun i p hp=>(h i p hp).1⟩
 · rintro ⟨_,_,h3,h4⟩ i p hp
   exact ⟨h4 i p hp,fun e=>h3 p (by rw [← e];exact hp)⟩
theorem XC (n:Nd):EA n=some (mb (n.kind=11∧(n.name=eS∧zD n∧zT n∧n.kids=[])∧n.unit=Bj∧E8 n.n)):=by
 rw [EA,Za,I4]
 simp only [Option.bind_some,Bu,B8,Bo,EC]
 rfl
end Mo
end Go.Proofs.YtkfplcngmiljaaaGreatDoor
namespace Go.Proofs.YtkfplcngmiljaaaGreatDoor
open AI Go
namespace Mo
set_option maxRecDepth 100000
set_option maxHeartbeats 4000000
theorem Vi (l m:List Nd):Iv (l++m)=Iv l+Iv m:=by
 induction l with
 | nil=>simp [Iv]
 | cons a l ih=>simp only [List.cons_append,Iv,ih];omega
theorem XI {l:List Nd} {i:Nat} {y:Nd} (h:l[i]?=some y):Iv (l.take (i+1))=Iv (l.take i)+Ef y:=by
 rw [List.take_add_one,h,Vi];simp [Iv]
theorem Ym (l:List Nd) (i:Nat):Iv (l.take i)≤Iv l:=by
 have:=Vi (l.take i) (l.drop i)
 rw [List.take_append_drop] at this
 omega
theorem qQ:∀ (n:Nat) (e:Nd) (l:Int),DC e→Ef e≤n→l≤1000000→BE n e l=some (max 0 (min ((Ef e:Nat):Int) l)):=by
 intro n
 induction n with
 | zero=>intro e l _ h;have:=Dz e;omega
 | succ n ih =>
   intro e l hok hn hl
   obtain ⟨_,hk,hks⟩:=Fa hok
   have hp:=Dz e
   rw [BE,Ei,VV]
   simp only [F6,Bo,UU,Mt]
   refine ⟨fun h=>by omega,fun h=>?_⟩
   refine aX (fun i x=>x=min (((1+Iv (e.kids.take i):Nat)):Int) l) hk (by simp [Iv];omega) (fun i y x hy hx=>?_) (fun x hx=>?_)
   · have hm:=List.mem_of_getElem? hy
     have h1:=XI hy
     have h2:=Ym e.kids (i+1)
     have h3:=M9 hm
     simp only [Dl,EH,Bo,UU,VI,Mt,rL,qT]
     refine ⟨fun h4=>?_,fun h4=>by omega⟩
     rw [ML (by omega),ih y (l - x) (hks y hm) (by omega) (by omega),Mt,CI (by omega)]
     omega
   · rw [List.take_length] at hx
     rw [Mt];omega
theorem tB (e:Nd) (l:Int) (h:DC e) (hl:0≤l∧l < 1000000):Ee e l=some (mb (((Ef e:Nat):Int)≤l)):=by
 have hc:HU e (l+1)=some (max 0 (min ((Ef e:Nat):Int) (l+1))):=Nk (Ef e) fun n hn=>qQ n e (l+1) h hn (by omega)
 rw [Ee,CI (by omega),hc,VV]
 simp only [F6,Bo,UU,Mt,VI,UP,N6]
 omega
theorem kW:∀ (n:Nat) (e:Nd) (l:Int),DC e→Ef e≤n→-1000000≤l→l≤1000000→Ea n e l=some (mb (((Lv e:Nat):Int)≤l)):=by
 intro n
 induction n with
 | zero=>intro e l _ h;have:=Dz e;omega
 | succ n ih =>
   intro e l hok hn hl0 hl
   obtain ⟨_,hk,hks⟩:=Fa hok
   have hp:=K4 e
   rw [Ea,IP,EH,Bo]
   by_cases h:l < 1
   · rw [Ag h];refine H9 ?_;omega
   rw [Ad h,Io (v:=false) (P:=fun _ y=>((Lv y:Nat):Int)≤l - 1) hk (fun i y hy=>by
     have hm:=List.mem_of_getElem? hy
     have h3:=M9 hm
     simp only [HN]
     rw [ML (by omega),ih y (l - 1) (hks y hm) (by omega) (by omega) (by omega)]
     simp only [Option.bind_some,Bo,SD]),GF,Mb]
   refine Ke ?_
   have h4:(∀ k∈e.kids,((Lv k:Nat):Int)≤l - 1)↔ZD e.kids≤(l - 1).toNat:=by
     rw [PV]
     exact ⟨fun h k hk=>by have:=h k hk;omega,fun h k hk=>by have:=h k hk;omega⟩
   rw [h4]
   omega
theorem nI (e:Nd) (h:DC e):GW e=some (mb (Ef e≤2000∧Lv e≤40)):=by
 have hf:Kd e 40=some (mb (((Lv e:Nat):Int)≤40)):=Nk (Ef e) fun n hn=>kW n e 40 h hn (by omega) (by omega)
 rw [GW,tB e 2000 h (by omega),hf]
 simp only [Option.bind_some,Bo,EC]
 refine Ke ?_
 omega
theorem Xh {n:Nd} {nm un:ByteArray} {k f t w:Int} {tb:Fn}:Dm n ⟨0,nm,un,k,f,t,w,tb,[],0⟩↔n.name=nm∧n.unit=un∧n.n=k∧n.fr=f∧n.to=t∧n.known=w∧n.tab.den=tb.den∧n.tab.ps=tb.ps:=Iff.rfl
theorem Rc {k:Nd}:KH k∧LA k↔(k.kind=11∧(k.name=eS∧zD k∧zT k∧k.kids=[])∧k.unit=Bj∧E8 k.n):=by
 rw [Nb]
 unfold LA zD zT E8
 constructor
 · rintro ⟨⟨h1,_⟩,h2,h3,h4⟩
   obtain ⟨_,_,_,_,hl,hb⟩:=(Ye h2).1 h1
   obtain ⟨b1,_,_,b4,b5,b6,b7,b8⟩:=Xh.1 hb
   exact ⟨h2,⟨b1,⟨b4,b5,b6⟩,⟨b7,b8⟩,Us.1 hl⟩,h3,h4⟩
 · rintro ⟨h2,⟨b1,⟨b4,b5,b6⟩,⟨b7,b8⟩,hl⟩,h3,h4⟩
   refine ⟨⟨(Ye h2).2 ⟨.inr (.inl h3),by omega,by omega,fun e=>?_,by rw [hl];rfl,Xh.2 ⟨b1,rfl,rfl,b4,b5,b6,b7,b8⟩⟩,fun k hk=>by rw [hl] at hk;cases hk⟩,h2,h3,h4⟩
   rw [h3] at e
   exact absurd (congrArg ByteArray.data e) (by decide)
theorem cT:∀ (q:Nat) (n:Nd),DC n→2*Ef n≤q→CH q n=some (mb (KH n)):=by
 intro q
 induction q using Nat.strongRecOn with
 | _ q ih =>
 intro n hok hq
 have hsz:=Dz n
 obtain ⟨q,rfl⟩:∃ k,q=k+1:=⟨q - 1,by omega⟩
 obtain ⟨hps,hkl,hks⟩:=Fa hok
 have hfn:=((TH n).1 hok).1
 have hE:∀ k∈n.kids,∀ q',q≤q'+1→q' < q+1→CH q' k=some (mb (KH k)):=fun k hk q' h4 h5=>ih q' h5 k (hks k hk) (by have:=FK hk;omega)
 have hL:0 < n.kids.length→Dh q n.kids=some (mb (∀ k∈n.kids,KH k)):=by
   intro h
   obtain ⟨q,rfl⟩:∃ k,q=k+1:=⟨q - 1,by have:=J7 n.kids;omega⟩
   rw [Dh,Hy,Io (v:=false) (P:=fun _ y=>KH y) hkl (fun i y hy=>by
     simp only [GO]
     rw [hE y (List.mem_of_getElem? hy) q (by omega) (by omega)]
     simp only [Option.bind_some,Bo,SD]),GF,Mb]
 rw [CH,IK]
 simp only [Bu,B8,F6,Bo,Za,kP,kO,Sl,cA,fB,I4,jH,YY,XC,dY _ hfn,Option.bind_some]
 rw [Nb]
 have nokids:n.kids=[]→(∀ k∈n.kids,KH k):=fun h k hk=>by rw [h] at hk;cases hk
 by_cases Yi:n.kind=11
 · rw [Ag Yi,Ye Yi,Xh,Us]
   simp only [GF,EC,fN,Kc,zD,zT,Iy]
   have tt:AQ (UA n.unit) (some true) (some true)=some (mb True):=by rw [Kc,iF]
   have hb:∀ {A:Prop},AQ A (some (mb True)) (some false)=some (mb A):=by intro A;rw [EC];exact Ke (by simp)
   first
     | (simp only [tt,iF,EC,dS])
     | skip
   refine Ke ⟨?_,?_⟩
   · rintro ⟨⟨b1,⟨b2,b3,b4⟩,⟨b5,b6⟩,b7⟩,h1,h2⟩
     refine ⟨?_,nokids b7⟩
     by_cases ht:n.unit=AO
     · have:=h1 ht
       exact ⟨.inl ht,by omega,by omega,fun _=>by omega,b7,b1,trivial,trivial,b2,b3,b4,b5,b6⟩
     · obtain ⟨h3,h4⟩:=h2 ht
       refine ⟨?_,by omega,by omega,fun h=>absurd h ht,b7,b1,trivial,trivial,b2,b3,b4,b5,b6⟩
       rcases h4 with h | h | h
       · exact .inr (.inr (.inr h))
       · exact .inr (.inl h)
       · exact .inr (.inr (.inl h))
   · rintro ⟨⟨h0,h1,h2,h3,b7,b1,_,_,b2,b3,b4,b5,b6⟩,_⟩
     refine ⟨⟨b1,⟨b2,b3,b4⟩,⟨b5,b6⟩,b7⟩,fun ht=>⟨⟨h1,h3 ht⟩,h1,h2⟩,fun ht=>⟨⟨h1,h2⟩,?_⟩⟩
     rcases h0 with h | h | h | h
     · exact absurd h ht
     · exact .inr (.inl h)
     · exact .inr (.inr h)
     · exact .inl h
 rw [Ad Yi]
 by_cases YB:n.kind=12
 · rw [Ag YB,tA YB,Xh,Us]
   simp only [EC,zD,zT]
   refine Ke ?_
   constructor
   · rintro ⟨⟨b1,b2,⟨b3,b4,b5⟩,⟨b6,b7⟩,b8⟩,h⟩
     exact ⟨⟨h,b8,trivial,b1,b2,b3,b4,b5,b6,b7⟩,nokids b8⟩
   · rintro ⟨⟨h,b8,_,b1,b2,b3,b4,b5,b6,b7⟩,_⟩
     exact ⟨⟨b1,b2,⟨b3,b4,b5⟩,⟨b6,b7⟩,b8⟩,h⟩
 rw [Ad YB]
 by_cases Yq:n.kind=13
 · rw [Ag Yq,pX Yq,Xh,Us]
   simp only [EC,zD,zT]
   refine Ke ?_
   constructor
   · rintro ⟨⟨b1,b2,⟨b3,b4,b5⟩,⟨b6,b7⟩,b8⟩,h⟩
     exact ⟨⟨h,b8,b1,b2,trivial,b3,b4,b5,b6,b7⟩,nokids b8⟩
   · rintro ⟨⟨h,b8,b1,b2,_,b3,b4,b5,b6,b7⟩,_⟩
     exact ⟨⟨b1,b2,⟨b3,b4,b5⟩,⟨b6,b7⟩,b8⟩,h⟩
 rw [Ad Yq]
 by_cases Y3:n.kind=14
 · rw [Ag Y3,tX Y3,Xh,Us,kR _ _ (by decide)]
   simp only [Option.bind_some,EC,zD,zT]
   refine Ke ?_
   have hd:n.name∈[EX,Ox,Ip,Ky]↔OZ n.name:=by
     unfold OZ
     simp only [List.mem_cons,List.not_mem_nil,or_false]
   rw [hd]
   constructor
   · rintro ⟨⟨b1,b2,⟨b3,b4,b5⟩,⟨b6,b7⟩,b8⟩,h⟩
     exact ⟨⟨h,b8,trivial,b1,b2,b3,b4,b5,b6,b7⟩,nokids b8⟩
   · rintro ⟨⟨h,b8,_,b1,b2,b3,b4,b5,b6,b7⟩,_⟩
     exact ⟨⟨b1,b2,⟨b3,b4,b5⟩,⟨b6,b7⟩,b8⟩,h⟩
 rw [Ad Y3]
 have hone:∀ {β:Type} (f:Bool→Option β),n.kids.length=1→((n.kids[0]?).bind fun x=>(CH q x).bind f)=f (mb (∀ k∈n.kids,KH k)):=by
   intro β f hl
   have hE0:=fun k hk=>hE k hk q (by omega) (by omega)
   generalize n.kids=ks at *
   match ks,hl with
   | [x],_ =>
   simp only [List.getElem?_cons_zero,Option.bind_some]
   rw [hE0 x (by simp)]
   simp only [Option.bind_some]
   congr 1
   exact FC (by simp)
 by_cases ZX:n.kind=15
 · rw [Ag ZX,cP ZX,Xh]
   by_cases hl:n.kids.length=1
   · rw [Ag (show ((n.kids.length:Nat):Int)=1 by omega),hone _ hl]
     simp only [EC,zD,zT]
     refine Ke ?_
     constructor
     · rintro ⟨⟨b1,b2,b0,⟨b3,b4,b5⟩,⟨b6,b7⟩⟩,h⟩
       exact ⟨⟨hl,b1,b2,b0,b3,b4,b5,b6,b7⟩,h⟩
     · rintro ⟨⟨_,b1,b2,b0,b3,b4,b5,b6,b7⟩,h⟩
       exact ⟨⟨b1,b2,b0,⟨b3,b4,b5⟩,⟨b6,b7⟩⟩,h⟩
   · rw [Ad (show ¬ ((n.kids.length:Nat):Int)=1 by omega),Kc]
     exact H9 fun a=>hl a.1.1
 rw [Ad ZX]
 by_cases VG:n.kind=16
 · rw [Ag VG,gK VG,Xh,kR _ _ (by decide)]
   have hop:n.name∈[SO,Iq,Ij,Hh,On,Hp,KK,NW,Om,JD,Tu]↔Qi n.name:=by
     unfold Qi
     simp only [List.mem_cons,List.not_mem_nil,or_false]
     constructor
     · rintro (h | h | h | h | h | h | h | h | h | h | h)<;>simp [h]
     · rintro (h | h | h | h | h | h | h | h | h | h | h)<;>simp [h]
   by_cases hl:n.kids.length=2
   rotate_left
   · rw [Ad (show ¬ ((n.kids.length:Nat):Int)=2 by omega),Kc]
     exact H9 fun a=>hl a.1.2.1
   rw [Ag (show ((n.kids.length:Nat):Int)=2 by omega),hL (by omega)]
   have hk1:n.kids[1]?=some n.kids[1]:=List.getElem?_eq_getElem (by omega)
   have hmem:n.kids[1]∈n.kids:=List.getElem_mem _
   rw [hk1]
   simp only [Option.bind_some,XC,Bo,EC,dS,hop,zD,zT]
   refine Ke ?_
   have hnum:=@Rc n.kids[1]
   unfold zD zT at hnum
   generalize n.kids[1]=x at *
   simp only [Option.some.injEq,forall_eq']
   constructor
   · rintro ⟨⟨b2,b0,⟨b3,b4,b5⟩,⟨b6,b7⟩⟩,h1,h2⟩
     by_cases hs:n.name=JD
     · obtain ⟨c1,c2,c3⟩:=h1 hs
       exact ⟨⟨⟨trivial,b2,b0,b3,b4,b5,b6,b7⟩,hl,c2,fun _=>(hnum.2 c1).2⟩,c3⟩
     · obtain ⟨c2,c3⟩:=h2 hs
       exact ⟨⟨⟨trivial,b2,b0,b3,b4,b5,b6,b7⟩,hl,c2,fun h=>absurd h hs⟩,c3⟩
   · rintro ⟨⟨⟨_,b2,b0,b3,b4,b5,b6,b7⟩,_,c2,c1⟩,c3⟩
     exact ⟨⟨b2,b0,⟨b3,b4,b5⟩,⟨b6,b7⟩⟩,fun hs=>⟨hnum.1 ⟨c3 x hmem,c1 hs⟩,c2,c3⟩,fun _=>⟨c2,c3⟩⟩
 rw [Ad VG]
 by_cases XX:n.kind=17
 · rw [Ag XX,eP XX,Xh]
   by_cases hl:2≤n.kids.length
   rotate_left
   · rw [Ad (show ¬ 2≤((n.kids.length:Nat):Int) by omega),Kc]
     exact H9 fun a=>hl a.1.2.2
   rw [Ag (show 2≤((n.kids.length:Nat):Int) by omega),hL (by omega)]
   simp only [Option.bind_some,EC,dS,zD,zT]
   refine Ke ?_
   constructor
   · rintro ⟨⟨b2,b0,⟨b3,b4,b5⟩,⟨b6,b7⟩⟩,h1,h2⟩
     by_cases hs:n.name=Hm
     · exact ⟨⟨.inl hs,⟨trivial,b2,b0,b3,b4,b5,b6,b7⟩,hl⟩,h1 hs⟩
     · exact ⟨⟨.inr (h2 hs).1,⟨trivial,b2,b0,b3,b4,b5,b6,b7⟩,hl⟩,(h2 hs).2⟩
   · rintro ⟨⟨c1,⟨_,b2,b0,b3,b4,b5,b6,b7⟩,_⟩,c3⟩
     exact ⟨⟨b2,b0,⟨b3,b4,b5⟩,⟨b6,b7⟩⟩,fun _=>c3,fun hs=>⟨c1.resolve_left hs,c3⟩⟩
 rw [Ad XX]
 by_cases YR:n.kind=18
 · rw [Ag YR,eA YR,Xh]
   by_cases hl:n.kids.length=1
   · rw [Ag (show ((n.kids.length:Nat):Int)=1 by omega),hone _ hl]
     simp only [Bo,EC,zD]
     refine Ke ?_
     constructor
     · rintro ⟨⟨b1,b2,b0,⟨b3,b4,b5⟩⟩,h,h2⟩
       exact ⟨⟨⟨b1,b2,b0,b3,b4,b5,trivial,trivial⟩,h2,hl⟩,h⟩
     · rintro ⟨⟨⟨b1,b2,b0,b3,b4,b5,_,_⟩,h2,_⟩,h⟩
       exact ⟨⟨b1,b2,b0,⟨b3,b4,b5⟩⟩,h,h2⟩
   · rw [Ad (show ¬ ((n.kids.length:Nat):Int)=1 by omega),Kc]
     exact H9 fun a=>hl a.1.2.2
 rw [Ad YR]
 exact H9 fun a=>by have:=OG a.1;omega
theorem XU {n:Nd} (hok:DC n):FU n=some (mb (KH n)):=Nk (2*Ef n) fun q hq=>cT q n hok hq
theorem oD {n:Nd}:DH n=some (mb (JS n)):=by
 rw [DH,fK]
 simp only [I4,Option.bind_some,Bu,Bo]
 unfold JS
 rw [Xh,Us]
 unfold zT WK
 by_cases hf:0≤n.fr∧n.fr≤36524
 · rw [CI (by omega)]
   simp only [EC]
   refine Ke ⟨?_,?_⟩
   · rintro ⟨k5,⟨b1,b2,⟨b3,b4⟩,b5⟩,⟨h1,h2⟩,h3,⟨h4,h5⟩,h6⟩
     exact ⟨k5,⟨h1,h2⟩,b5,h3,⟨by omega,h5⟩,h6,b1,b2,trivial,trivial,trivial,trivial,b3,b4⟩
   · rintro ⟨k5,h1,b5,h3,⟨h4,h5⟩,h6,b1,b2,_,_,_,_,b3,b4⟩
     exact ⟨k5,⟨b1,b2,⟨b3,b4⟩,b5⟩,h1,h3,⟨by omega,h5⟩,h6⟩
 · rw [Ad hf]
   simp only [Kc]
   exact H9 fun a=>hf a.2.2.2.1
theorem Xi (l:List Nd) (hl:l.length≤9223372036854775807):EZ l=some (mb (0 < l.length∧∀ k∈l,KH k∧LA k)):=by
 rw [EZ,Io (v:=false) (P:=fun _ k=>KH k∧LA k) hl (fun i k _=>by
   simp only [FN,XC,Option.bind_some,Bo,SD,Rc]),EH,Bo]
 simp only [GF,EC,Mb]
 exact Ke ⟨fun a=>⟨by omega,a.1⟩,fun a=>⟨a.2,by omega⟩⟩
theorem Ur (n:Nd):Dm n z0↔n.name=eS∧n.unit=eS∧n.n=0∧zD n∧zT n:=by
 unfold zD zT
 rw [Xh]
 simp only [and_assoc]
theorem Lf:∀ {l:List Nd} {i:Nat} {a b:Nat},(∀ x∈l,DC x)→a+l.length≤9223372036854775807→b+l.length≤9223372036854775807 →
   AL (fun i y x=>Cl i y x.1 x.2) (fun x=>(x.1,x.2)) l i (((a:Nat):Int),((b:Nat):Int))=(some (AQ (kinds l∧∀ k∈l,Bz k) (.inl (((a+Bg 7 l:Nat):Int),((b+Bg 8 l:Nat):Int))) (.inr false)):Option ((Int×Int)⊕Bool))
 | [],i,a,b,_,_,_=>by rw [Ag (show kinds []∧_ from ⟨fun k hk=>(by cases hk),fun k hk=>(by cases hk)⟩)];rfl
 | x::l,i,a,b,hok,ha,hb=>by
   simp only [List.length_cons] at ha hb
   have hx:=hok x (by simp)
   obtain ⟨hps,hkl,hks⟩:=Fa hx
   rw [AL,Cl,Sl]
   simp only [Option.bind_some,Bu,Bo,Xi _ hkl]
   have hsplit:(kinds (x::l)∧∀ k∈x::l,Bz k)↔((6≤x.kind∧x.kind≤8)∧Bz x)∧kinds l∧∀ k∈l,Bz k:=by
     unfold kinds
     simp only [List.mem_cons,forall_eq_or_imp]
     exact ⟨fun ⟨⟨p,q⟩,r,s⟩=>⟨⟨p,r⟩,q,s⟩,fun ⟨⟨p,r⟩,q,s⟩=>⟨⟨p,q⟩,r,s⟩⟩
   have stop:¬ ((6≤x.kind∧x.kind≤8)∧Bz x)→(some (Lp.rt false):Option (Lp (Int×Int) (Int×Int) Bool)).bind (Gj (AL (fun i y x=>Cl i y x.1 x.2) (fun x=>(x.1,x.2)) l (i+1)))=some (AQ (kinds (x::l)∧∀ k∈x::l,Bz k) (.inl (((a+Bg 7 (x::l):Nat):Int),((b+Bg 8 (x::l):Nat):Int))) (.inr false)):=by
     intro h
     rw [Ad fun q=>h (hsplit.1 q).1];rfl
   have go:∀ {a' b':Nat},((6≤x.kind∧x.kind≤8)∧Bz x)→a'≤a+1→b'≤b+1→a'+Bg 7 l=a+Bg 7 (x::l)→b'+Bg 8 l=b+Bg 8 (x::l)→(some (Lp.nx (((a':Nat):Int),((b':Nat):Int))):Option (Lp (Int×Int) (Int×Int) Bool)).bind (Gj (AL (fun i y x=>Cl i y x.1 x.2) (fun x=>(x.1,x.2)) l (i+1)))=some (AQ (kinds (x::l)∧∀ k∈x::l,Bz k) (.inl (((a+Bg 7 (x::l):Nat):Int),((b+Bg 8 (x::l):Nat):Int))) (.inr false)):=by
     intro a' b' h h1 h2 e1 e2
     have ih:=Lf (l:=l) (i:=i+1) (a:=a') (b:=b') (fun y hy=>hok y (by simp [hy])) (by omega) (by omega)
     rw [e1,e2] at ih
     show AL _ _ l (i+1) _=_
     rw [ih]
     by_cases hr:kinds l∧∀ k∈l,Bz k
     · rw [Ag hr,Ag (hsplit.2 ⟨h,hr⟩)]
     · rw [Ad hr,Ad fun q=>hr (hsplit.1 q).2]
   rw [← Ur]
   by_cases hb0:Dm x z0
   rotate_left
   · rw [Ad hb0];exact stop fun q=>hb0 q.2.1
   rw [Ag hb0]
   have one:∀ {A B:Option (Lp (Int×Int) (Int×Int) Bool)},x.kind≠7→(Bz x→A.bind (Gj (AL (fun i y x=>Cl i y x.1 x.2) (fun x=>(x.1,x.2)) l (i+1)))=some (AQ (kinds (x::l)∧∀ k∈x::l,Bz k) (.inl (((a+Bg 7 (x::l):Nat):Int),((b+Bg 8 (x::l):Nat):Int))) (.inr false))) →
       (AQ (((x.kids.length:Nat):Int)=1) ((x.kids[0]?).bind fun x2=>(FU x2).bind fun y3=>cond y3 A (some (.rt false))) (some (.rt false))).bind (Gj (AL (fun i y x=>Cl i y x.1 x.2) (fun x=>(x.1,x.2)) l (i+1)))=some (AQ (kinds (x::l)∧∀ k∈x::l,Bz k) (.inl (((a+Bg 7 (x::l):Nat):Int),((b+Bg 8 (x::l):Nat):Int))) (.inr false)):=by
     intro A B k7 hA
     by_cases hl:x.kids.length=1
     rotate_left
     · rw [Ad (by omega)];exact stop fun q=>hl (q.2.2.2 k7).1
     rw [Ag (by omega)]
     obtain ⟨k,hk⟩:∃ k,x.kids=[k]:=by
       generalize x.kids=ks at hl
       match ks,hl with
       | [k],_=>exact ⟨k,rfl⟩
     have h0:x.kids[0]?=some k:=by rw [hk];rfl
     rw [h0]
     simp only [Option.bind_some]
     rw [XU (hks k (by rw [hk];simp))]
     simp only [Option.bind_some,Bo]
     have hc:Bz x↔KH k:=by
       unfold Bz
       constructor
       · intro q;exact (q.2.2 k7).2 k (by rw [hk];simp)
       · intro q;exact ⟨hb0,fun h=>absurd h k7,fun _=>⟨hl,fun k' hk'=>by rw [hk,List.mem_singleton] at hk';rw [hk'];exact q⟩⟩
     by_cases he:KH k
     · rw [Ag he];exact hA (hc.2 he)
     · rw [Ad he];exact stop fun q=>he (hc.1 q.2)
   by_cases k6:x.kind=6
   · rw [Ag k6]
     refine one (B:=none) (by omega) fun h=>go ⟨by omega,h⟩ (by omega) (by omega) (by simp [Bg,k6]) (by simp [Bg,k6])
   rw [Ad k6]
   by_cases k8:x.kind=8
   · rw [Ag k8,CI (by omega),show ((b:Nat):Int)+1=((b+1:Nat):Int) by omega]
     refine one (B:=none) (by omega) fun h=>go ⟨by omega,h⟩ (by omega) (by omega) (by simp [Bg,k8]) (by simp [Bg,k8];omega)
   rw [Ad k8]
   by_cases k7:x.kind=7
   · rw [Ag k7]
     have hc:Bz x↔(0 < x.kids.length∧∀ k∈x.kids,KH k∧LA k):=by
       unfold Bz
       exact ⟨fun q=>q.2.1 k7,fun q=>⟨hb0,fun _=>q,fun h=>absurd k7 h⟩⟩
     rw [← hc]
     by_cases h:Bz x
     · rw [Ag h,CI (by omega),show ((a:Nat):Int)+1=((a+1:Nat):Int) by omega]
       exact go ⟨by omega,h⟩ (by omega) (by omega) (by simp [Bg,k7];omega) (by simp [Bg,k7])
     · rw [Ad h];exact stop fun q=>h q.2
   · rw [Ad k7];exact stop fun q=>by have:=q.1;omega
theorem WB (l:List Nd) (hok:∀ x∈l,DC x) (hl:l.length≤9223372036854775807):CG l=some (mb ((kinds l∧∀ k∈l,Bz k)∧Bg 7 l≤1∧Bg 8 l=1)):=by
 have h:=Lf (l:=l) (i:=0) (a:=0) (b:=0) hok (by omega) (by omega)
 rw [CG,DJ hl,List.drop_zero]
 rw [show (((0:Nat):Int))=0 from rfl] at h
 rw [h]
 by_cases hc:kinds l∧∀ k∈l,Bz k
 · rw [Ag hc]
   simp only [Option.bind_some,Ii,F6,Bu,Bo,GF,EC]
   exact Ke ⟨fun q=>⟨hc,by omega,by omega⟩,fun q=>⟨by omega,by omega⟩⟩
 · rw [Ad hc]
   exact H9 fun q=>hc q.1
theorem QZ {n:Nd} (hok:DC n) (u:Prop):AQ (n.kind=2) (AQ (n.n=0∧zD n∧zT n∧n.kids=[]) (some (mb u)) (some false)) (AQ (n.kind=3) (AQ (zD n∧zT n∧n.kids=[]) (AQ u (some (mb (1≤n.n∧n.n≤4))) (some false)) (some false)) (AQ (n.kind=4) (AQ (n.unit=eS∧zD n∧zT n) (AQ (1≤n.n∧n.n≤1000000) (AQ (1 < ((n.kids.length:Nat):Int)) ((n.kids[0]?).bind fun x=>(DH x).bind fun y=>cond y ((Ku n.kids 1 ((n.kids.length:Nat):Int)).bind fun l=>(CG l).bind fun y=>some y) (some false)) (some false)) (some false)) (some false)) (some false)))=some (mb ((n.kind=2∧u∧n.n=0∧zD n∧zT n∧n.kids=[])∨(n.kind=3∧u∧(1≤n.n∧n.n≤4)∧zD n∧zT n∧n.kids=[])∨(n.kind=4∧(n.unit=eS∧zD n∧zT n)∧E8 n.n∧∃ h cs,n.kids=h::cs∧kinds cs∧Bg 8 cs=1∧Bg 7 cs≤1∧JS h∧∀ k∈cs,Bz k))):=by
 obtain ⟨hps,hkl,hks⟩:=Fa hok
 by_cases k2:n.kind=2
 · rw [Ag k2,EC]
   refine Ke ⟨fun ⟨a,b⟩=>.inl ⟨k2,b,a⟩,?_⟩
   rintro (a | a | a)
   · exact ⟨a.2.2,a.2.1⟩
   · omega
   · omega
 rw [Ad k2]
 by_cases k3:n.kind=3
 · rw [Ag k3,EC,EC]
   refine Ke ⟨fun ⟨a,b,c⟩=>.inr (.inl ⟨k3,b,c,a⟩),?_⟩
   rintro (a | a | a)
   · omega
   · exact ⟨a.2.2.2,a.2.1,a.2.2.1⟩
   · omega
 rw [Ad k3]
 by_cases k4:n.kind=4
 rotate_left
 · rw [Ad k4]
   refine H9 ?_
   rintro (a | a | a)
   · omega
   · omega
   · omega
 rw [Ag k4]
 by_cases hl:1 < n.kids.length
 rotate_left
 · rw [Ad (show ¬ (1:Int) < ((n.kids.length:Nat):Int) by omega),Kc,Kc]
   refine H9 ?_
   rintro (a | a | ⟨_,_,_,h,cs,e,_,e8,_⟩)
   · omega
   · omega
   · rw [e] at hl
     have:=Kl 8 cs
     simp at hl
     rw [hl] at e8
     cases e8
 rw [Ag (show (1:Int) < ((n.kids.length:Nat):Int) by omega)]
 generalize n.kids=ks at *
 match ks,hl with
 | x::l,_ =>
 have hsub:Ku (x::l) 1 (((x::l).length:Nat):Int)=some l:=by
   unfold Ku
   rw [if_pos (by simp only [List.length_cons];omega)]
   simp
 rw [hsub]
 simp only [List.getElem?_cons_zero,Option.bind_some,oD,Bo]
 rw [WB l (fun y hy=>hks y (by simp [hy])) (by simp at hkl;omega)]
 simp only [Option.bind_some,EC]
 refine Ke ⟨?_,?_⟩
 · rintro ⟨a,b,c,⟨d,e⟩,f,g⟩
   exact .inr (.inr ⟨k4,a,b,x,l,rfl,d,g,f,c,e⟩)
 · rintro (a | a | ⟨_,a,b,h,cs,e,d,g,f,c,e'⟩)
   · omega
   · omega
   · cases e
     exact ⟨a,b,c,⟨d,e'⟩,f,g⟩
theorem oP {n:Nd} (hok:DC n):GL n=some (mb (Gg n)):=by
 have c1:=QZ hok True
 simp only [Ag trivial,← iF] at c1
 have c2:=QZ hok (n.unit=B2)
 rw [GL]
 simp only [YY,jH,nH,kX,gU,I4,Option.bind_some,Bu,B8,EH,Bo]
 rw [c1,c2]
 have hbare:∀ {un:ByteArray} {k:Int},Dm n ⟨0,n.name,un,k,0,0,0,⟨0,[]⟩,[],0⟩↔n.unit=un∧n.n=k∧zD n∧zT n:=by
   intro un k
   unfold zD zT
   rw [Xh]
   simp only [true_and,and_assoc]
 simp only [EC,dS]
 refine Ke ?_
 unfold Gg fY
 simp only [hbare,Us,true_and]
 constructor
 · rintro ⟨hn,h1,h2⟩
   have uni:∀ {k:Prop},(Iy n.unit→((n.kind=2∧n.n=0∧zD n∧zT n∧n.kids=[])∨(n.kind=3∧(1≤n.n∧n.n≤4)∧zD n∧zT n∧n.kids=[])∨(n.kind=4∧(n.unit=eS∧zD n∧zT n)∧E8 n.n∧∃ h cs,n.kids=h::cs∧kinds cs∧Bg 8 cs=1∧Bg 7 cs≤1∧JS h∧∀ k∈cs,Bz k)))→Iy n.unit→((n.kind=2∧Hb n.name∧Iy n.unit∧n.kids=[]∧n.n=0∧zD n∧zT n)∨(n.kind=3∧Hb n.name∧Iy n.unit∧1≤n.n∧n.n≤4∧n.kids=[]∧zD n∧zT n)∨(n.kind=4∧E8 n.n∧Hb n.name∧(n.unit=eS∧zD n∧zT n)∧∃ h cs,n.kids=h::cs∧kinds cs∧Bg 8 cs=1∧Bg 7 cs≤1∧JS h∧∀ k∈cs,Bz k)):=by
     intro _ h hu
     rcases h hu with ⟨a,b,c,d,e⟩ | ⟨a,b,c,d,e⟩ | ⟨a,b,c,d⟩
     · exact .inl ⟨a,hn,hu,e,b,c,d⟩
     · exact .inr (.inl ⟨a,hn,hu,b.1,b.2,e,c,d⟩)
     · exact .inr (.inr ⟨a,c,hn,b,d⟩)
   by_cases hc:UA n.unit
   · exact uni (k:=True) (fun _=>h1 hc) (.inr (.inr (.inr hc)))
   obtain ⟨h3,h4⟩:=h2 hc
   by_cases ht:n.unit=AO
   · exact uni (k:=True) (fun _=>h3 ht) (.inl ht)
   obtain ⟨h5,h6⟩:=h4 ht
   by_cases hm:n.unit=Bj
   · exact uni (k:=True) (fun _=>h5 hm) (.inr (.inl hm))
   rcases h6 hm with ⟨a,b,r⟩ | ⟨a,b,r⟩ | r
   · exact uni (k:=True) (fun _=>.inl ⟨a,r⟩) (.inr (.inr (.inl b)))
   · exact uni (k:=True) (fun _=>.inr (.inl ⟨a,r⟩)) (.inr (.inr (.inl b)))
   · exact .inr (.inr ⟨r.1,r.2.2.1,hn,r.2.1,r.2.2.2⟩)
 · have back:(n.kind=2∧Hb n.name∧Iy n.unit∧n.kids=[]∧n.n=0∧zD n∧zT n)∨(n.kind=3∧Hb n.name∧Iy n.unit∧1≤n.n∧n.n≤4∧n.kids=[]∧zD n∧zT n)∨(n.kind=4∧E8 n.n∧Hb n.name∧(n.unit=eS∧zD n∧zT n)∧∃ h cs,n.kids=h::cs∧kinds cs∧Bg 8 cs=1∧Bg 7 cs≤1∧JS h∧∀ k∈cs,Bz k)→Hb n.name∧(n.kind≠4→Iy n.unit)∧((n.kind=2∧n.n=0∧zD n∧zT n∧n.kids=[])∨(n.kind=3∧(1≤n.n∧n.n≤4)∧zD n∧zT n∧n.kids=[])∨(n.kind=4∧(n.unit=eS∧zD n∧zT n)∧E8 n.n∧∃ h cs,n.kids=h::cs∧kinds cs∧Bg 8 cs=1∧Bg 7 cs≤1∧JS h∧∀ k∈cs,Bz k)):=by
     rintro (⟨a,b,c,d,e,f,g⟩ | ⟨a,b,c,d,d',e,f,g⟩ | ⟨a,b,c,d,e⟩)
     · exact ⟨b,fun _=>c,.inl ⟨a,e,f,g,d⟩⟩
     · exact ⟨b,fun _=>c,.inr (.inl ⟨a,⟨d,d'⟩,f,g,e⟩)⟩
     · exact ⟨c,fun h=>absurd a h,.inr (.inr ⟨a,d,b,e⟩)⟩
   intro h
   obtain ⟨hn,hu,r⟩:=back h
   refine ⟨hn,fun _=>r,fun nc=>⟨fun _=>r,fun nt=>⟨fun _=>r,fun nn=>?_⟩⟩⟩
   rcases r with ⟨a,r⟩ | ⟨a,r⟩ | r
   · have hm:n.unit=B2:=by
       rcases hu (by omega) with h | h | h | h
       · exact absurd h nt
       · exact absurd h nn
       · exact h
       · exact absurd h nc
     exact .inl ⟨a,hm,r⟩
   · have hm:n.unit=B2:=by
       rcases hu (by omega) with h | h | h | h
       · exact absurd h nt
       · exact absurd h nn
       · exact h
       · exact absurd h nc
     exact .inr (.inl ⟨a,hm,r⟩)
   · exact .inr (.inr r)
theorem Vh {n:Nd} (hok:DC n):E3 n=some (mb (N7 n)):=by
 obtain ⟨hps,hkl,hks⟩:=Fa hok
 rw [E3,nI n hok,XU hok]
 simp only [Option.bind_some,Bo,Bu]
 unfold N7
 by_cases hf:Ef n≤2000∧Lv n≤40
 rotate_left
 · rw [Ad hf];exact H9 fun q=>hf q.2
 rw [Ag hf]
 by_cases k1:n.kind=1
 · rw [Ag k1,Io (v:=false) (P:=fun _ k=>Gg k) hkl (fun i k hk=>by
     simp only [GH]
     rw [oP (hks k (List.mem_of_getElem? hk))]
     simp only [Option.bind_some,Bo,SD]),Sl]
   simp only [Option.bind_some,EC,Mb]
   refine Ke ⟨fun q=>⟨.inl ⟨k1,(Ur n).2 q.2,q.1⟩,hf⟩,?_⟩
   rintro ⟨a | a,_⟩
   · exact ⟨a.2.2,(Ur n).1 a.2.1⟩
   · exact absurd k1 a.1
 · rw [Ad k1]
   refine Ke ⟨fun q=>⟨.inr ⟨k1,q⟩,hf⟩,?_⟩
   rintro ⟨a | a,_⟩
   · exact absurd a.1 k1
   · exact a.2
end Mo
end Go.Proofs.YtkfplcngmiljaaaGreatDoor
namespace Go.Proofs.YtkfplcngmiljaaaGreatDoor
open AI Go
namespace Mo
set_option maxRecDepth 100000
set_option maxHeartbeats 4000000
theorem sL {β:Type} {p:Prop} [Decidable p] {x y:β}:AQ p x y=if p then x else y:=by
 by_cases h:p
 · rw [Ag h,if_pos h]
 · rw [Ad h,if_neg h]
theorem Gf {β:Type} {x y:β}:AQ True x y=x:=Ag trivial
theorem E7 {β:Type} {x y:β}:AQ False x y=y:=Ad fun h=>h
theorem UT (u:ByteArray):Db u=some (mb (u≠AO∧u≠Bj∧u≠B2)):=by
 rw [Db]
 simp only [B8,Bo,mE,ZK]
theorem OE {u:ByteArray} (h:u≠eS):aJ u↔(u≠AO∧u≠Bj∧u≠B2):=⟨fun k=>k.2,fun k=>⟨h,k⟩⟩
theorem L2 (k:Int) (x:ByteArray):∀ (l:List Nd) (i:Nat),(∃ nd,AL (fun i y x'=>ED k x i y) (fun _=>()) l i ()=(some (.inr (nd,true)):Option (Unit⊕(Nd×Bool)))∧fU k l x=some nd.unit)∨(AL (fun i y x'=>ED k x i y) (fun _=>()) l i ()=(some (.inl ()):Option (Unit⊕(Nd×Bool)))∧fU k l x=none)
 | [],_=>.inr ⟨rfl,rfl⟩
 | a::l,i=>by
   rw [AL,ED,fU,RP,QL]
   by_cases h:a.kind=k
   · rw [Ag h]
     by_cases h2:a.name=x
     · rw [Ag h2,Ag ⟨h,h2⟩]
       exact .inl ⟨a,rfl,rfl⟩
     · rw [Ad h2,Ad fun e=>h2 e.2]
       exact L2 k x l (i+1)
   · rw [Ad h,Ad fun e=>h e.1]
     exact L2 k x l (i+1)
theorem OS {src:Nd} (hl:src.kids.length≤9223372036854775807) (k:Int) (x:ByteArray):∃ nd,DL src k x=some (nd,mb (fU k src.kids x≠none))∧nd.unit=(fU k src.kids x).getD eS:=by
 rw [DL,DJ hl,List.drop_zero]
 rcases L2 k x src.kids 0 with ⟨nd,h1,h2⟩ | ⟨h1,h2⟩
 · rw [h1,h2];exact ⟨nd,by rw [Bk.2 (by simp)];rfl,rfl⟩
 · rw [h1,h2];exact ⟨_,by rw [SK (by simp)];rfl,rfl⟩
theorem Nt (z:Int):∀ (l:List Nd) (i:Nat),(∃ nd,AL (fun i y x'=>DO z i y) (fun _=>()) l i ()=(some (.inr (nd,true)):Option (Unit⊕(Nd×Bool)))∧fA l z=some nd.name)∨(AL (fun i y x'=>DO z i y) (fun _=>()) l i ()=(some (.inl ()):Option (Unit⊕(Nd×Bool)))∧fA l z=none)
 | [],_=>.inr ⟨rfl,rfl⟩
 | a::l,i=>by
   rw [AL,DO,fA,RP,RP]
   by_cases h:a.kind=4
   · rw [Ag h]
     by_cases h2:a.n=z
     · rw [Ag h2,Ag ⟨h,h2⟩]
       exact .inl ⟨a,rfl,rfl⟩
     · rw [Ad h2,Ad fun e=>h2 e.2]
       exact Nt z l (i+1)
   · rw [Ad h,Ad fun e=>h e.1]
     exact Nt z l (i+1)
theorem US {src:Nd} (hl:src.kids.length≤9223372036854775807) (z:Int):∃ nd,DA src z=some (nd,mb (fA src.kids z≠none))∧nd.name=(fA src.kids z).getD eS:=by
 rw [DA,DJ hl,List.drop_zero]
 rcases Nt z src.kids 0 with ⟨nd,h1,h2⟩ | ⟨h1,h2⟩
 · rw [h1,h2];exact ⟨nd,by rw [Bk.2 (by simp)];rfl,rfl⟩
 · rw [h1,h2];exact ⟨_,by rw [SK (by simp)];rfl,rfl⟩
theorem dA (p:Prop):Bi (mb p)=some (AQ p AO eS):=by
 rw [Bi,Bo]
 by_cases h:p
 · rw [Ag h,Ag h]
 · rw [Ad h,Ad h]
theorem Vo (u:ByteArray):CU u=some (AQ (u=AO) eS u):=by
 rw [CU,QL]
 by_cases h:u=AO
 · rw [Ag h,Ag h]
 · rw [Ad h,Ad h]
theorem Pd {a:ByteArray} {m:List ByteArray} (hm:m[0]?=some a):∀ (l:List ByteArray) (i:Nat),AL (fun i y x=>FE m i y) (fun _=>()) l i ()=some (AQ (∀ u∈l,u=a) (.inl ()) (.inr eS))
 | [],_=>by rw [AL,Ag (fun u hu=>by cases hu)]
 | b::l,i=>by
   rw [AL,FE,hm]
   simp only [Option.bind_some,QL]
   by_cases h:b=a
   · rw [Ag h]
     refine (Pd hm l (i+1)).trans ?_
     by_cases h2:∀ u∈l,u=a
     · rw [Ag h2,Ag fun u hu=>by rcases List.mem_cons.1 hu with rfl | hu;exact h;exact h2 u hu]
     · rw [Ad h2,Ad fun k=>h2 fun u hu=>k u (List.mem_cons_of_mem _ hu)]
   · rw [Ad h,Ad fun k=>h (k b (by simp))]
     rfl
theorem VN {a:ByteArray} {l:List ByteArray} (hl:(a::l).length≤9223372036854775807):DK (a::l)=some (AQ (∀ u∈a::l,u=a) a eS):=by
 rw [DK,DJ hl,Pd (a:=a) rfl]
 by_cases h:∀ u∈l,u=a
 · rw [show (a::l).drop 1=l from rfl,Ag h,Ag fun u hu=>by rcases List.mem_cons.1 hu with rfl | hu;rfl;exact h u hu]
   rfl
 · rw [show (a::l).drop 1=l from rfl,Ad h,Ad fun k=>h fun u hu=>k u (List.mem_cons_of_mem _ hu)]
   rfl
theorem Yo (a b:ByteArray):(∀ u∈[a,b],u=a)=(b=a):=by simp
theorem XT {op a b:ByteArray} (hop:Qi op) (hb:b≠eS):Fu op a b=some (Ic op [a,b]):=by
 have hT:Bi true=some AO:=rfl
 have hF:Bi false=some eS:=rfl
 have hE:DK [a,b]=some (AQ (b=a) a eS):=by rw [VN (by simp),Yo]
 unfold Ic QS
 rw [show [a,b].headD eS=a from rfl,show [a,b].getLastD eS=b from rfl,Yo,Fu]
 simp only [B8,kI,Bo,dA,Vo,hE,hF,hT,UT,Option.bind_some,propext (OE hb)]
 rcases hop with rfl | rfl | rfl | rfl | rfl | rfl | rfl | rfl | rfl | rfl | rfl<;>simp (decide:=true) only [Gf,E7]<;>simp only [sL]<;>grind
theorem p4 (a:ByteArray):Ic Iq [a]=AQ (a=AO) AO eS:=by
 unfold Ic QS
 rw [show [a].headD eS=a from rfl,show (∀ u∈[a],u=a)=True from by simp]
 simp (decide:=true) only [Gf,E7]
theorem nM {a:ByteArray} {l:List ByteArray}:Ic KK (a::l)=AQ (∀ u∈a::l,u=a) (AQ (a=AO) eS a) eS:=by
 unfold Ic QS
 rw [show (a::l).headD eS=a from rfl]
 simp (decide:=true) only [Gf,E7]
theorem RT {u:ByteArray} (h:Iy u):u≠eS:=by
 rintro rfl
 rcases h with h | h | h | h
 · exact absurd h (by decide)
 · exact absurd h (by decide)
 · exact absurd h (by decide)
 · exact absurd h.1 (by decide)
theorem lC {src n:Nd} {ds:List Dg} {us:List ByteArray} (hl:src.kids.length≤9223372036854775807) (hq:My n) (hu:us.length=n.kids.length) (h2:n.kids.length≤2000) (hne:∀ u∈us,u≠eS):∃ e,Dp ⟨src,ds⟩ n us=some (Lg (fact src) (lU src) n us,e)∧(Lg (fact src) (lU src) n us=eS→e=Of n):=by
 unfold Lg Of
 rw [Dp]
 simp only [RP]
 have hsome:∀ {x y:ByteArray×Int} {p:Prop},p→AQ p (some x) (some y)=some x:=fun h=>Ag h
 rcases OG hq with k | k | k | k | k | k | k | k
 · rw [Ag k,Ag k]
   exact ⟨0,rfl,fun e=>absurd e (RT ((Ye k).1 hq).1)⟩
 · obtain ⟨nd,h1,h3⟩:=OS hl 2 n.name
   simp (decide:=true) only [k,Gf,E7,h1,Option.bind_some]
   exact ⟨91,by rw [h3];rfl,fun _=>rfl⟩
 · obtain ⟨nd,h1,h3⟩:=US hl n.n
   obtain ⟨md,h4,h5⟩:=OS hl 3 nd.name
   simp (decide:=true) only [k,Gf,E7,h1,h4,Option.bind_some]
   exact ⟨91,by rw [h5,h3];rfl,fun _=>rfl⟩
 · simp (decide:=true) only [k,Gf,E7]
   exact ⟨0,rfl,fun e=>absurd e (by decide)⟩
 · obtain ⟨a1,_⟩:=(cP k).1 hq
   match us,hu.trans a1 with
   | [a],_ =>
     simp (decide:=true) only [k,Gf,E7,List.getElem?_cons_zero,Option.bind_some,B8,Bo,p4]
     by_cases h:a=AO
     · rw [Ag h,Ag h];exact ⟨11,rfl,fun _=>rfl⟩
     · rw [Ad h,Ad h];exact ⟨11,rfl,fun _=>rfl⟩
 · obtain ⟨_,a2,a3,_⟩:=(gK k).1 hq
   match us,hu.trans a2 with
   | [a,b],_ =>
     have hb:b≠eS:=hne b (by simp)
     simp (decide:=true) only [k,Gf,E7,List.getElem?_cons_zero,List.getElem?_cons_succ,Option.bind_some,XT a3 hb]
     exact ⟨11,rfl,fun _=>rfl⟩
 · obtain ⟨_,_,a3⟩:=(eP k).1 hq
   match us,hu with
   | [],h=>simp only [List.length_nil] at h;omega
   | a::l,h =>
     simp (decide:=true) only [k,Gf,E7,VN (a:=a) (l:=l) (by omega),Vo,Option.bind_some,nM]
     refine ⟨11,?_,fun _=>rfl⟩
     by_cases h1:∀ u∈a::l,u=a
     · rw [Ag h1,Ag h1]
     · rw [Ad h1,Ad h1,Ad (by decide)]
 · obtain ⟨_,_,a3⟩:=(eA k).1 hq
   match us,hu.trans a3 with
   | [a],_ =>
     have ha:a≠eS:=hne a (by simp)
     simp (decide:=true) only [k,Gf,E7,List.getElem?_cons_zero,Option.bind_some,UT,Bo,List.headD_cons,propext (OE ha)]
     by_cases h:a≠AO∧a≠Bj∧a≠B2
     · rw [Ag h,Ag h];exact ⟨0,rfl,fun e=>absurd e ha⟩
     · rw [Ad h,Ad h];exact ⟨11,rfl,fun _=>rfl⟩
theorem H7 (src:Nd) {ds:List Dg} (h:ds.length≤20) (e at_:Int):AY ⟨src,ds⟩ e at_=some ((),cap ds [⟨e,at_⟩]):=by
 rw [AY,← L6 h,tZ]
 dsimp only
 unfold Lq
 by_cases h2:ds.length < 20
 · rw [Ag (by omega),if_pos h2,So (by omega)]
 · rw [Ad (by omega),if_neg h2]
theorem ZO {src:Nd} {g:Cq→Nd→Option (ByteArray×List Dg)} {c:Cq} (hc:c.src=src):∀ {l:List Nd} {us:List ByteArray} {w:Prop} {ds:List Dg} {i:Nat},(∀ k∈l,∀ ds:List Dg,ds.length≤20→g ⟨src,ds⟩ k=some ((Im src k).1,cap ds (Im src k).2))→us.length+l.length≤100000000→ds.length≤20 →
   AL (fun i y x=>Cy g c i y x.1 x.2.1 x.2.2) (fun x=>(x.1,x.2.1,x.2.2)) l i (us,mb w,ds)=some (.inl (us++l.map (fun k=>(Im src k).1),mb (w∧∀ k∈l,(Im src k).1≠eS),cap ds (l.flatMap fun k=>(Im src k).2)))
 | [],us,w,ds,i,_,_,h=>by rw [AL,List.flatMap_nil,Dr h];simp
 | a::l,us,w,ds,i,hk,hl,h=>by
   simp only [List.length_cons] at hl
   rw [AL,Cy,hc,hk a (by simp) ds h]
   simp only [Option.bind_some]
   rw [So (by omega)]
   simp only [B8,Bo]
   have ih:=fun w'=>ZO (g:=g) (c:=c) hc (l:=l) (us:=us++[(Im src a).1]) (w:=w') (ds:=cap ds (Im src a).2) (i:=i+1) (fun k h1=>hk k (by simp [h1])) (by simp;omega) (C5 _ _)
   have fin:∀ w':Prop,(w'↔w∧(Im src a).1≠eS)→(AL (fun i y x=>Cy g c i y x.1 x.2.1 x.2.2) (fun x=>(x.1,x.2.1,x.2.2)) l (i+1) (us++[(Im src a).1],mb w',cap ds (Im src a).2))=(some (.inl (us++(a::l).map (fun k=>(Im src k).1),mb (w∧∀ k∈a::l,(Im src k).1≠eS),cap ds ((a::l).flatMap fun k=>(Im src k).2))):Option ((List ByteArray×Bool×List Dg)⊕(ByteArray×List Dg))):=by
     intro w' hw
     rw [ih w',DF]
     congr 2
     refine Prod.ext (by simp) (Prod.ext (FC ?_) (by simp))
     simp only [List.mem_cons,forall_eq_or_imp,hw,and_assoc]
   by_cases hw:w
   · rw [Ag hw]
     by_cases hu:(Im src a).1=eS
     · rw [Ag hu,uJ]
       exact fin False ⟨fun q=>q.elim,fun q=>q.2 hu⟩
     · rw [Ad hu,iF]
       exact fin True ⟨fun _=>⟨hw,hu⟩,fun _=>trivial⟩
   · rw [Ad hw,uJ]
     exact fin False ⟨fun q=>q.elim,fun q=>hw q.1⟩
theorem c6 {src:Nd} (hl:src.kids.length≤9223372036854775807):∀ (q:Nat) (n:Nd) (ds:List Dg),KH n→Ef n≤q→Ef n≤2000→ds.length≤20→BC q ⟨src,ds⟩ n=some ((Im src n).1,cap ds (Im src n).2):=by
 intro q
 induction q with
 | zero=>intro n ds _ h;have:=Dz n;omega
 | succ q ih =>
 intro n ds he hq h2 hd
 obtain ⟨hQ,hks⟩:=(Nb n).1 he
 have hsz:=Dz n
 have hkl:=J7 n.kids
 have hf:=ZO (src:=src) (g:=BC q) (c:=⟨src,ds⟩) rfl (l:=n.kids) (us:=[]) (w:=True) (ds:=ds) (i:=0) (fun k hk ds' hd'=>ih k ds' (hks k hk) (by have:=FK hk;omega) (by have:=FK hk;omega) hd') (by simp;omega) hd
 simp only [List.nil_append,true_and,← iF] at hf
 have hS:Im src n=Z6 (fact src) (lU src) n (n.kids.map (fun k=>(Im src k).1),n.kids.flatMap fun k=>(Im src k).2):=by
   unfold Im
   rw [Yt,Tv]
 rw [BC,Eb,DJ (by omega),List.drop_zero,hf,hS]
 show cond (mb (∀ k∈n.kids,(Im src k).1≠eS)) _ _=_
 rw [Bo]
 have hall:(∀ u∈n.kids.map (fun k=>(Im src k).1),u≠eS)↔∀ k∈n.kids,(Im src k).1≠eS:=by simp
 unfold Z6
 by_cases hw:∀ k∈n.kids,(Im src k).1≠eS
 · rw [Ag hw,Ag (p:=∀ u∈n.kids.map (fun k=>(Im src k).1),u≠eS) (hall.2 hw)]
   obtain ⟨e,h3,h4⟩:=lC (src:=src) (ds:=cap ds (n.kids.flatMap fun k=>(Im src k).2)) hl hQ (us:=n.kids.map fun k=>(Im src k).1) (by simp) (by omega) (hall.2 hw)
   rw [h3]
   simp only [Option.bind_some,B8,Bo]
   by_cases hU:Lg (fact src) (lU src) n (n.kids.map fun k=>(Im src k).1)=eS
   · rw [Ag hU,Ag hU,h4 hU,H7 src (C5 _ _),DF]
     rfl
   · rw [Ad hU,Ad hU]
 · rw [Ad hw,Ad (p:=∀ u∈n.kids.map (fun k=>(Im src k).1),u≠eS) fun k=>hw (hall.1 k)]
theorem V0 {src n:Nd} {ds:List Dg} (hl:src.kids.length≤9223372036854775807) (he:KH n) (h:Ef n≤2000) (hd:ds.length≤20):Ec ⟨src,ds⟩ n=some ((Im src n).1,cap ds (Im src n).2) :=
 Nk (Ef n) fun q hq=>c6 hl q n ds he hq h hd
theorem QR {n:Nd} (hok:DC n):Ey n=some (mb (n.kind=1∧N7 n)):=by
 rw [Ey,Vh hok]
 simp only [Option.bind_some,Bu,Bo,EC]
theorem Zz {n:Nd} (hok:DC n):DS n=some (mb (¬ n.kind=1∧N7 n)):=by
 rw [DS,Vh hok]
 simp only [Option.bind_some,Bu,Bo,ZK]
theorem fW {src e:Nd} (hs:DC src) (he:DC e):Gp src e=some (NJ src e):=by
 obtain ⟨_,hkl,_⟩:=Fa hs
 rw [Gp,QR hs,Zz he,QI]
 simp only [Option.bind_some,Bo]
 by_cases v1:src.kind=1∧N7 src
 rotate_left
 · rw [Ad v1,Ad fun k=>v1 ⟨k.1.1,k.2.1⟩]
 rw [Ag v1]
 by_cases v2:¬ e.kind=1∧N7 e
 rotate_left
 · rw [Ad v2,Ad fun k=>v2 ⟨k.1.2,k.2.2⟩]
 rw [Ag v2,Ag ⟨⟨v1.1,v2.1⟩,v1.2,v2.2⟩]
 obtain ⟨a,b,_⟩:=ZJ v2.2 v2.1
 rw [V0 hkl a b (by simp)]
 rfl
end Mo
end Go.Proofs.YtkfplcngmiljaaaGreatDoor
namespace LexS
def Nf (n:Nat):Nat :=
 if n=32∨n=9∨n=10∨n=13 then 1
 else if 97≤n∧n≤122 then 2
 else if 65≤n∧n≤90 then 4
 else if 48≤n∧n≤57 then 8
 else if n=95 then 16
 else 0
def cin (m:Nat) (c:UInt8):Bool:=(Nf c.toNat &&& m) != 0
def B0 (m:Nat) (t:List UInt8):Nat:=(t.takeWhile (cin m)).length
def Jh (m:Nat) (t:List UInt8):Bool:=match t with
 | []=>false
 | c::_=>cin m c
def Hf (b:Bool):List UInt8→Nat
 | []=>0
 | c::t =>
   if b then (if c=10 then 1+Hf false t else 1+Hf true t)
   else if cin 1 c then 1+Hf false t
   else if c=47∧t.head?=some 47 then 1+Hf true t
   else 0
def F0 (t:List UInt8):Nat:=Hf false t
def KP (t:List UInt8) (i:Nat):Bool :=
 if i=4∨i=7 then t[i]? == some 45 else Jh 8 (t.drop i)
def Jg (t:List UInt8):Bool:=decide (10≤t.length)&&(List.range 10).all (KP t)
def free (t:List UInt8):Bool:=!(Jh 30 t||t.head? == some 46)
def H6 (t:List UInt8):Nat×Nat :=
 let d:=B0 8 t
 if Jg t then (if free (t.drop 10) then (5,10) else (0,0))
 else if t.head?=some 48∧1 < d then (0,0)
 else if (t.drop d).head?=some 46 then
   (if 10 < d∨Jh 8 (t.drop (d+1))=false∨Jh 8 (t.drop (d+2))=false then (0,0)
    else if free (t.drop (d+3)) then (4,d+3) else (0,0))
 else if 12 < d then (0,0)
 else if free (t.drop d) then (3,d) else (0,0)
def D2:List (List UInt8):=[[61,61],[33,61],[60,61],[62,61],[60],[62],[43],[45],[42],[47],[40],[41],[123],[125],[58],[59],[44]]
def OB (t:List UInt8):List (List UInt8)→Nat×Nat
 | []=>(0,0)
 | y::ys=>if y.isPrefixOf t then (6,y.length) else OB t ys
def CQ (t:List UInt8):Nat×Nat :=
 if Jh 2 t then (if B0 30 t≤16∧B0 26 t=B0 30 t then (1,B0 30 t) else (0,0))
 else if Jh 4 t then (if B0 30 t=3∧B0 4 t=B0 30 t then (2,B0 30 t) else (0,0))
 else if Jh 8 t then H6 t
 else OB t D2
abbrev Tok:=Nat×List UInt8×Nat
def IX:Nat→Nat→List UInt8→List Tok
 | 0,_,_=>[]
 | n+1,o,t =>
   if t=[] then []
   else if (CQ t).1=0 then [(0,[],o)]
   else ((CQ t).1,t.take (CQ t).2,o) ::
     IX n (o+(CQ t).2+F0 (t.drop (CQ t).2)) ((t.drop (CQ t).2).drop (F0 (t.drop (CQ t).2)))
def Di (s:List UInt8):List Tok:=IX s.length (F0 s) (s.drop (F0 s))
end LexS
namespace LexS
theorem L1 (m:Nat) (c:UInt8) (t:List UInt8):B0 m (c::t)=if cin m c then 1+B0 m t else 0:=by
 unfold B0
 rw [List.takeWhile_cons]
 by_cases h:cin m c=true
 · simp [h];omega
 · simp [h]
theorem Xk (m:Nat) (t:List UInt8):Jh m (t.drop (B0 m t))=false:=by
 induction t with
 | nil=>rfl
 | cons c t ih =>
   rw [L1]
   by_cases h:cin m c=true
   · rw [if_pos h,Nat.add_comm,List.drop_succ_cons];exact ih
   · rw [if_neg h,List.drop_zero];simp [Jh,h]
theorem Mv (m:Nat) (t:List UInt8):B0 m t≤t.length:=by
 unfold B0;exact (List.takeWhile_prefix _).length_le
theorem Xt (t:List UInt8):Hf false t=B0 1 t+Hf false (t.drop (B0 1 t)):=by
 induction t with
 | nil=>rfl
 | cons c t ih =>
   rw [L1]
   by_cases h:cin 1 c=true
   · rw [if_pos h,Nat.add_comm 1,List.drop_succ_cons,Hf]
     simp only [h,Bool.false_eq_true,if_false,if_true]
     omega
   · rw [if_neg h];simp
theorem Tl (t:List UInt8) (h:[47,47].isPrefixOf t=true):Hf false t=Hf true t:=by
 obtain ⟨u,rfl⟩:∃ u,t=47::47::u:=by
   obtain ⟨u,hu⟩:=List.isPrefixOf_iff_prefix.1 h
   exact ⟨u,by simpa using hu.symm⟩
 rw [Hf]
 conv=>rhs;rw [Hf]
 simp [cin,Nf]
theorem XE (t:List UInt8) (h1:Jh 1 t=false) (h:[47,47].isPrefixOf t=false):Hf false t=0:=by
 cases t with
 | nil=>rfl
 | cons c t =>
   rw [Hf]
   have h1':cin 1 c=false:=h1
   simp only [h1',Bool.false_eq_true,if_false]
   rw [if_neg]
   rintro ⟨rfl,h2⟩
   cases t with
   | nil=>simp at h2
   | cons d t=>simp at h2;subst h2;simp [List.isPrefixOf] at h
theorem ZL (t:List UInt8):Hf true (10::t)=Hf false (10::t):=by
 rw [Hf,Hf];simp [cin,Nf]
theorem kA (c:UInt8) (t:List UInt8) (h:c≠10):Hf true (c::t)=1+Hf true t:=by
 rw [Hf];simp [h]
theorem eE (b:Bool) (t:List UInt8):Hf b t≤t.length:=by
 induction t generalizing b with
 | nil=>simp [Hf]
 | cons c t ih =>
   rw [Hf]
   have h1:=ih true
   have h2:=ih false
   repeat' split
   all_goals simp only [List.length_cons];omega
theorem V6 (t:List UInt8):F0 t≤t.length:=eE _ _
theorem Oo (b a:List UInt8):b.isPrefixOf a=(a.take b.length == b):=by
 rw [Bool.eq_iff_iff,List.isPrefixOf_iff_prefix,List.prefix_iff_eq_take,beq_iff_eq]
 exact eq_comm
end LexS
namespace LexS
theorem Zb (t:List UInt8) (ys:List (List UInt8)) (h:(OB t ys).1≠0) (hy:∀ y∈ys,1≤y.length):1≤(OB t ys).2∧(OB t ys).2≤t.length:=by
 induction ys with
 | nil=>simp [OB] at h
 | cons y ys ih =>
   rw [OB] at h ⊢
   by_cases hp:y.isPrefixOf t=true
   · rw [if_pos hp]
     exact ⟨hy y (by simp),(List.isPrefixOf_iff_prefix.1 hp).length_le⟩
   · rw [if_neg hp] at h ⊢
     exact ih h (fun y' h'=>hy y' (by simp [h']))
theorem P2 (m:Nat) (t:List UInt8) (h:Jh m t=true):1≤B0 m t:=by
 cases t with
 | nil=>simp [Jh] at h
 | cons c t=>have h':cin m c=true:=h;rw [L1,if_pos h'];omega
theorem eB (c:UInt8) (m m':Nat) (h:cin m c=true) (hs:∀ k,k=0∨k=1∨k=2∨k=4∨k=8∨k=16→(k &&& m)≠0→(k &&& m')≠0):cin m' c=true:=by
 unfold cin at h ⊢
 rw [bne_iff_ne] at h ⊢
 refine hs _ ?_ h
 unfold Nf
 repeat (split;simp)
 simp
theorem VM (t:List UInt8) (m m':Nat) (h:Jh m t=true) (hs:∀ k,k=0∨k=1∨k=2∨k=4∨k=8∨k=16→(k &&& m)≠0→(k &&& m')≠0):Jh m' t=true:=by
 cases t with
 | nil=>simp [Jh] at h
 | cons c t=>exact eB c m m' h hs
theorem eN (m:Nat) (t:List UInt8) (k:Nat) (h:Jh m (t.drop k)=true):k < t.length:=by
 rcases Nat.lt_or_ge k t.length with hk | hk
 · exact hk
 · rw [List.drop_eq_nil_of_le hk] at h;simp [Jh] at h
theorem Zu (t:List UInt8) (h8:Jh 8 t=true) (h:(H6 t).1≠0):1≤(H6 t).2∧(H6 t).2≤t.length:=by
 have hd:=P2 8 t h8
 have hl:=Mv 8 t
 unfold H6 at h ⊢
 simp only at h ⊢
 by_cases h1:Jg t=true
 · rw [if_pos h1] at h ⊢
   by_cases h2:free (t.drop 10)=true
   · rw [if_pos h2]
     have:10≤t.length:=by unfold Jg at h1;simp at h1;exact h1.1
     exact ⟨by simp,this⟩
   · rw [if_neg h2] at h;simp at h
 · rw [if_neg h1] at h ⊢
   by_cases h2:t.head?=some 48∧1 < B0 8 t
   · rw [if_pos h2] at h;simp at h
   · rw [if_neg h2] at h ⊢
     by_cases h3:(t.drop (B0 8 t)).head?=some 46
     · rw [if_pos h3] at h ⊢
       by_cases h4:10 < B0 8 t∨Jh 8 (t.drop (B0 8 t+1))=false∨Jh 8 (t.drop (B0 8 t+2))=false
       · rw [if_pos h4] at h;simp at h
       · rw [if_neg h4] at h ⊢
         by_cases h5:free (t.drop (B0 8 t+3))=true
         · rw [if_pos h5]
           have h6:Jh 8 (t.drop (B0 8 t+2))=true:=by
             cases hh:Jh 8 (t.drop (B0 8 t+2)) with
             | true=>rfl
             | false=>exact absurd (.inr (.inr hh)) h4
           have:=eN 8 t _ h6
           exact ⟨by simp,by simp only;omega⟩
         · rw [if_neg h5] at h;simp at h
     · rw [if_neg h3] at h ⊢
       by_cases h4:12 < B0 8 t
       · rw [if_pos h4] at h;simp at h
       · rw [if_neg h4] at h ⊢
         by_cases h5:free (t.drop (B0 8 t))=true
         · rw [if_pos h5];exact ⟨hd,hl⟩
         · rw [if_neg h5] at h;simp at h
theorem PP (t:List UInt8) (h:(CQ t).1≠0):1≤(CQ t).2∧(CQ t).2≤t.length:=by
 have hl:=Mv 30 t
 unfold CQ at h ⊢
 by_cases h2:Jh 2 t=true
 · have hd:=P2 30 t (VM t 2 30 h2 (by intro k hk;rcases hk with rfl | rfl | rfl | rfl | rfl | rfl<;>decide))
   rw [if_pos h2] at h ⊢
   by_cases hc:B0 30 t≤16∧B0 26 t=B0 30 t
   · rw [if_pos hc];exact ⟨hd,hl⟩
   · rw [if_neg hc] at h;simp at h
 · rw [if_neg h2] at h ⊢
   by_cases h4:Jh 4 t=true
   · have hd:=P2 30 t (VM t 4 30 h4 (by intro k hk;rcases hk with rfl | rfl | rfl | rfl | rfl | rfl<;>decide))
     rw [if_pos h4] at h ⊢
     by_cases hc:B0 30 t=3∧B0 4 t=B0 30 t
     · rw [if_pos hc];exact ⟨hd,hl⟩
     · rw [if_neg hc] at h;simp at h
   · rw [if_neg h4] at h ⊢
     by_cases h8:Jh 8 t=true
     · rw [if_pos h8] at h ⊢;exact Zu t h8 h
     · rw [if_neg h8] at h ⊢;exact Zb t D2 h (by decide)
def FQ (s:List UInt8) (k:Nat):List Tok:=IX (s.length - k) k (s.drop k)
theorem NX (n m o:Nat) (t:List UInt8) (hn:t.length≤n) (hm:t.length≤m):IX n o t=IX m o t:=by
 induction n generalizing m o t with
 | zero =>
   have:t=[]:=by cases t with | nil=>rfl | cons c t=>simp at hn
   subst this
   cases m with
   | zero=>rfl
   | succ m=>simp [IX]
 | succ n ih =>
   cases m with
   | zero =>
     have:t=[]:=by cases t with | nil=>rfl | cons c t=>simp at hm
     subst this;simp [IX]
   | succ m =>
     rw [IX,IX]
     by_cases ht:t=[]
     · rw [if_pos ht,if_pos ht]
     · rw [if_neg ht,if_neg ht]
       by_cases hz:(CQ t).1=0
       · rw [if_pos hz,if_pos hz]
       · rw [if_neg hz,if_neg hz]
         have hp:=PP t hz
         refine congrArg _ (ih m _ _ ?_ ?_)
         · simp only [List.length_drop];omega
         · simp only [List.length_drop];omega
theorem T7 (s:List UInt8) (k:Nat) (h:s.length≤k):FQ s k=[]:=by
 unfold FQ
 rw [show s.length - k=0 from by omega];rfl
theorem To (s:List UInt8) (k:Nat) (h:k < s.length) (hz:(CQ (s.drop k)).1=0):FQ s k=[(0,[],k)]:=by
 unfold FQ
 obtain ⟨n,hn⟩:∃ n,s.length - k=n+1:=⟨s.length - k - 1,by omega⟩
 rw [hn,IX,if_neg (by intro e;have:=congrArg List.length e;simp at this;omega),if_pos hz]
theorem T4 (s:List UInt8) (k:Nat) (h:k < s.length) (hz:(CQ (s.drop k)).1≠0) :
   FQ s k=((CQ (s.drop k)).1,(s.drop k).take (CQ (s.drop k)).2,k)::FQ s (k+(CQ (s.drop k)).2+F0 (s.drop (k+(CQ (s.drop k)).2))):=by
 have hp:=PP _ hz
 rw [List.length_drop] at hp
 unfold FQ
 obtain ⟨n,hn⟩:∃ n,s.length - k=n+1:=⟨s.length - k - 1,by omega⟩
 rw [hn,IX,if_neg (by intro e;have:=congrArg List.length e;simp at this;omega),if_neg hz]
 refine congrArg _ ?_
 rw [List.drop_drop,List.drop_drop]
 refine NX _ _ _ _ ?_ ?_
 · rw [List.length_drop];omega
 · rw [List.length_drop];omega
theorem WN (s:List UInt8):Di s=FQ s (F0 s):=by
 unfold Di FQ
 exact NX _ _ _ _ (by rw [List.length_drop];omega) (by rw [List.length_drop];omega)
def JE:List Tok→List Tok→List Tok×Nat×Nat
 | acc,[]=>(acc,0,0)
 | acc,x::r=>if acc.length=2000 then ([],2,x.2.2) else if x.1=0 then ([],61,x.2.2) else JE (acc++[x]) r
def SV (s:List UInt8):List Tok×Nat×Nat:=if 6000 < s.length then ([],2,0) else JE [] (Di s)
def S0 (l:List Tok):Prop:=l.length≤2000∧∀ x∈l,x.1≠0
theorem Od (acc q r:List Tok) (h:S0 (acc++q)):JE acc (q++r)=JE (acc++q) r:=by
 induction q generalizing acc with
 | nil=>simp
 | cons x q ih =>
   rw [List.cons_append,JE]
   have h1:=h.1
   rw [List.length_append,List.length_cons] at h1
   rw [if_neg (by omega),if_neg (h.2 x (by simp))]
   have:=ih (acc++[x]) (by simpa using h)
   simpa using this
end LexS
namespace Go.Proofs.YtkfplcngmiljaaaGreatDoor
open Go.RowKit LexS
def Et:Array Value:=(D2.map fun y=>Value.string ⟨y.toArray⟩).toArray
def IJ (w:World):Prop:=(∀ i,i < 128→w.cell? ⟨2,i,none⟩=some (.int .u8 (Nf i)))∧(∀ (j:Nat) v,Et.toList[j]?=some v→w.cell? ⟨0,j,none⟩=some v)
theorem IJ.Nf {w:World} (h:IJ w) (i:Nat) (hi:i < 128):w.cell? ⟨2,i,none⟩=some (.int .u8 (Nf i)):=by
 exact h.1 i hi
theorem IJ.Nh {w w':World} (h:IJ w) (hk:w'.heap[(2:Nat)]?=w.heap[(2:Nat)]?∧w'.heap[(0:Nat)]?=w.heap[(0:Nat)]?):IJ w':=by
 refine ⟨fun i hi=>?_,fun j v hj=>?_⟩
 · rw [World.cell?_of_block (w:=w) hk.1];exact h.1 i hi
 · rw [World.cell?_of_block (w:=w) hk.2];exact h.2 j v hj
def TB (n:Nat):Prop:=2 < n∧0 < n
theorem Wd {w:World} {g i:Nat} {v:Value} (h:w.cell? ⟨g,i,none⟩=some v):g < w.heap.size:=by
 unfold World.cell? at h
 by_cases hg:g < w.heap.size
 · exact hg
 · rw [Array.getElem?_eq_none (by simpa using hg)] at h
   cases h
theorem IJ.tb {w:World} (h:IJ w):TB w.heap.size:=⟨Wd (h.1 0 (by decide)),Wd (h.2 0 _ rfl)⟩
theorem Mw {P:Program} {ops:Array Oper} {rest:List Oper} {o:Oper} {a:Act} {w:World} {Q:Exit→Act→World→Prop} (hgd:o.guard=none) (ty:TypeId) (x:Operand) (ho:o.op=.load ty x)
   (g:Nat) (hx:a.eval x=.pointer (some ⟨g,0,none⟩)) (cs:Array Value) (d:TypeDesc) (hg:∀ (j:Nat) v,cs.toList[j]?=some v→w.cell? ⟨g,j,none⟩=some v)
   (hu:P.underlying ty=some d) (hd:(match d with | .struct _ | .array _ _=>true | _=>false)=true) (hi:(P.info? ty).map (·.size)=some cs.size)
   (h:wpList P ops Q rest (a.put o.dst (.agg cs)) w):wpList P ops Q (o::rest) a w:=by
 have hl:(loadCells ⟨g,0,none⟩ cs.toList.length).run P w=.ok cs.toList.toArray w :=
   run_loadCells_list (P:=P) w ⟨g,0,none⟩ cs.toList (fun j v hv=>by
     have hadd:(⟨g,0,none⟩:Addr).add j=⟨g,j,none⟩:=by unfold Addr.add;split<;>simp_all
     rw [hadd];exact hg j v hv)
 have hrow:(loadVar ty ⟨g,0,none⟩).run P w=.ok (.agg cs) w:=by
   cases hq:P.info? ty with
   | none=>simp [hq] at hi
   | some i =>
     have hs:i.size=cs.size:=by simpa [hq] using hi
     have hagg:(isAgg ty).run P w=.ok true w:=by
       unfold isAgg
       rw [Sem.run_bind,run_underlying hu w]
       cases d<;>simp_all
     simp only [Array.length_toList,Array.toArray_toList] at hl
     simp [loadVar,Sem.run_bind,hagg,Go.sizeOf,typeInfo,hq,hs,hl]
 refine wpList_plain hgd fun _ hK=>?_
 unfold Oper.wp execOp
 simp only [ho,hx,Instr.loadAt,Instr.sureAddr,Sem.run_bind,Sem.run_pure,Result.andThen_ok,hrow]
 exact hK _ _ h
abbrev L (s:ByteArray):List UInt8:=s.data.toList
theorem Kb (s:ByteArray) (k:Nat) (h:k < s.size):(L s).drop k=s[k]::(L s).drop (k+1):=by
 rw [List.drop_eq_getElem_cons (by simpa using h)];rfl
theorem O2 (s:ByteArray) (k:Nat) (h:s.size≤k):(L s).drop k=[]:=by
 rw [List.drop_eq_nil_iff];simpa using h
def uP (m:Nat):Bool:=m == 1||m == 2||m == 4||m == 8||m == 26||m == 30
theorem Zv (n:Nat):Nf n=0∨Nf n=1∨Nf n=2∨Nf n=4∨Nf n=8∨Nf n=16:=by
 unfold Nf;repeat (split;simp)
 simp
theorem cC (n:Nat) (h:128≤n):Nf n=0:=by
 unfold Nf
 rw [if_neg (by omega),if_neg (by omega),if_neg (by omega),if_neg (by omega),if_neg (by omega)]
theorem YL (n m:Nat) (hm:uP m=true):(bits BinOp.and IntKind.u8 (Nf n:Int) (m:Int) != 0)=((Nf n &&& m) != 0):=by
 have hm':m=1∨m=2∨m=4∨m=8∨m=26∨m=30:=by simp [uP] at hm;omega
 rcases Zv n with h | h | h | h | h | h<;>rw [h]<;>rcases hm' with rfl | rfl | rfl | rfl | rfl | rfl<;>decide
set_option maxHeartbeats 400000 in
theorem Fc (s:ByteArray) (a:Int) (m:Nat) (w:World) (hT:IJ w) (h0:0≤a) (hm:uP m=true) :
   Calls Tryz.prog 124 #[.string s,.int .i64 a,.int .u8 m] w fun e w'=>e=.returned (.bool (Jh m ((L s).drop a.toNat)))∧w=w':=by
 obtain ⟨k,rfl⟩:=Int.eq_ofNat_of_zero_le h0
 rw [Int.toNat_natCast]
 by_cases ha:k < s.size
 · have e1:Jh m ((L s).drop k)=cin m s[k]:=by rw [Kb s k ha];rfl
   have E1:=Lib.hid e1
   clear e1
   have HM:=Lib.hid hm
   clear hm
   by_cases h128:(s[k].toNat:Int) < 128
   · have hc:=hT.Nf s[k].toNat (by omega)
     go_enter Tryz.func124,Tryz.ntmps124
     go_wp2
     go_ret
     refine ⟨?_,rfl⟩
     rw [E1.out]
     have:=YL s[k].toNat m HM.out
     exact congrArg (fun b=>Ending.returned (.bool b)) this
   · have e2:cin m s[k]=false:=by unfold cin;rw [cC _ (by omega)];simp
     have E2:=Lib.hid e2
     clear e2
     go_enter Tryz.func124,Tryz.ntmps124
     go_wp2
     go_ret
     exact ⟨by rw [E1.out,E2.out];rfl,rfl⟩
 · have e1:Jh m ((L s).drop k)=false:=by rw [O2 s k (by omega)];rfl
   have E1:=Lib.hid e1
   clear e1
   go_enter Tryz.func124,Tryz.ntmps124
   go_wp2
   go_ret
   exact ⟨by rw [E1.out];rfl,rfl⟩
theorem S9 (m:Nat) (s:ByteArray) (k:Nat) (h:Jh m ((L s).drop k)=true):k+B0 m ((L s).drop k)=k+1+B0 m ((L s).drop (k+1))∧k < s.size:=by
 by_cases hk:k < s.size
 · rw [Kb s k hk] at h ⊢
   have h':cin m s[k]=true:=h
   refine ⟨?_,hk⟩
   unfold B0
   rw [List.takeWhile_cons,if_pos h']
   simp;omega
 · rw [O2 s k (by omega)] at h;simp [Jh] at h
theorem Y6 (m:Nat) (t:List UInt8) (h:Jh m t=false):B0 m t=0:=by
 cases t with
 | nil=>rfl
 | cons c t=>unfold B0;rw [List.takeWhile_cons];have:cin m c=false:=h;simp [this]
set_option maxHeartbeats 400000 in
theorem Kj (s:ByteArray) (a:Int) (m:Nat) (w:World) (hs:s.size≤9223372036854775806) (hT:IJ w) (h0:0≤a) (hm:uP m=true) :
   Calls Tryz.prog 122 #[.string s,.int .i64 a,.int .u8 m] w fun e w'=>e=.returned (.int .i64 (a+B0 m ((L s).drop a.toNat):Int))∧w=w':=by
 obtain ⟨k0,rfl⟩:=Int.eq_ofNat_of_zero_le h0
 rw [Int.toNat_natCast]
 have HM:=Lib.hid hm
 clear hm
 go_enter Tryz.func122,Tryz.ntmps122
 go_wp2_with fail
 go_loop [1] (fun i=>∃ k:Nat,Hid (k+B0 m ((L s).drop k)=k0+B0 m ((L s).drop k0))∧i=.int .i64 k) (fun i=>s.size - (intOf i).toNat)
 case atStart=>exact ⟨k0,Lib.hid rfl,rfl⟩
 case round =>
   obtain ⟨k,HK,rfl⟩:=hrel
   cases hb:Jh m ((L s).drop k) with
   | true =>
     obtain ⟨e1,hlt⟩:=S9 m s k hb
     have E1:=Lib.hid e1
     clear e1
     have HB:=Lib.hid hb
     clear hb
     go_wp2_with fail
     refine (Fc s _ m _ hT (by omega) HM.out).mono ?_
     rintro e w' ⟨rfl,rfl⟩
     rw [Int.toNat_natCast,HB.out]
     go_wp2_with fail
     go_round
     case rel=>exact ⟨k+1,Lib.hid (by rw [← HK.out,E1.out]),by go_num⟩
     case measure=>simp [intOf];omega
   | false =>
     have HB:=Lib.hid hb
     clear hb
     go_wp2_with fail
     refine (Fc s _ m _ hT (by omega) HM.out).mono ?_
     rintro e w' ⟨rfl,rfl⟩
     rw [Int.toNat_natCast,HB.out]
     go_wp2_with fail
     go_ret
     refine ⟨?_,rfl⟩
     have h1:=HK.out
     rw [Y6 m _ HB.out] at h1
     exact congrArg (fun n:Int=>Ending.returned (.int .i64 n)) (by omega)
end Go.Proofs.YtkfplcngmiljaaaGreatDoor
