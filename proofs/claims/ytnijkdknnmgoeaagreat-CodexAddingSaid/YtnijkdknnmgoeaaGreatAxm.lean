/- Part of a proof: see the last text. -/
import Derived.Test.YtnijkdknnmgoeaaGreatAxl
set_option linter.unusedVariables false
set_option linter.unusedSimpArgs false
namespace Go.Proofs.YtnijkdknnmgoeaaGreat
open AI Go
namespace Mo
set_option maxRecDepth 100000
set_option maxHeartbeats 4000000
theorem Nx (k:Int) (l m:List Nd):C3 k (l++m)=C3 k l+C3 k m:=by
 induction l with
 | nil=>simp [C3]
 | cons a l ih=>simp only [List.cons_append,C3,ih];omega
theorem KS {ds:List Dg} (h:ds.length≤20) (e at_:Int):Av e at_ ds=some ((),cap ds [⟨e,at_⟩]):=by rw [QT,NX h]
structure Pe (b:List Nd) (w5:Mm ByteArray Bool) (w2:Mm Int Int) (w4:Mm ByteArray Bool):Prop where
 lines:∀ x,((w5.get x).getD false=true)↔∃ a∈b,a.kind=3∧a.name=x
 facts:∀ x,((w4.get x).getD false=true)↔∃ a∈b,a.kind=2∧a.name=x
 Mg:∀ k,k=2∨k=3→(w2.get k).getD 0=((C3 k b:Nat):Int)
theorem We:Pe [] Mm.nil Mm.nil Mm.nil:=⟨fun x=>by simp [Mm.get_nil],fun x=>by simp [Mm.get_nil],fun k _=>by simp [Mm.get_nil,C3]⟩
theorem U3 {b:List Nd} {w5:Mm ByteArray Bool} {w2:Mm Int Int} {w4:Mm ByteArray Bool} (h:Pe b w5 w2 w4) {a:Nd} (ha:a.kind=4):Pe (b++[a]) w5 w2 w4:=by
 refine ⟨fun x=>(h.lines x).trans ?_,fun x=>(h.facts x).trans ?_,fun k hk=>(h.Mg k hk).trans ?_⟩
 · simp only [List.mem_append,List.mem_singleton]
   constructor
   · rintro ⟨c,hc,e⟩;exact ⟨c,.inl hc,e⟩
   · rintro ⟨c,hc | rfl,e⟩
     · exact ⟨c,hc,e⟩
     · omega
 · simp only [List.mem_append,List.mem_singleton]
   constructor
   · rintro ⟨c,hc,e⟩;exact ⟨c,.inl hc,e⟩
   · rintro ⟨c,hc | rfl,e⟩
     · exact ⟨c,hc,e⟩
     · omega
 · rw [Nx]
   simp only [C3]
   rw [if_neg (by omega)]
   simp
theorem T5 {b:List Nd} {w5:Mm ByteArray Bool} {w2:Mm Int Int} {w4:Mm ByteArray Bool} (h:Pe b w5 w2 w4) {a:Nd} (ha:a.kind=3) (hb:b.length < 9223372036854775807):Pe (b++[a]) (w5.set a.name true) (w2.set a.kind (BU ((w2.get a.kind).getD 0) 1)) w4:=by
 have hc:=Ms 3 b
 refine ⟨fun x=>?_,fun x=>(h.facts x).trans ?_,fun k hk=>?_⟩
 · rw [Mm.Dt]
   simp only [List.mem_append,List.mem_singleton]
   by_cases e:x=a.name
   · rw [if_pos e]
     exact ⟨fun _=>⟨a,.inr rfl,ha,e.symm⟩,fun _=>rfl⟩
   · rw [if_neg e,h.lines x]
     constructor
     · rintro ⟨c,hc,q⟩;exact ⟨c,.inl hc,q⟩
     · rintro ⟨c,hc | rfl,q⟩
       · exact ⟨c,hc,q⟩
       · exact absurd q.2.symm e
 · simp only [List.mem_append,List.mem_singleton]
   constructor
   · rintro ⟨c,hc,e⟩;exact ⟨c,.inl hc,e⟩
   · rintro ⟨c,hc | rfl,e⟩
     · exact ⟨c,hc,e⟩
     · omega
 · rw [Mm.Dt,ha,Nx]
   simp only [C3,ha]
   rcases hk with rfl | rfl
   · rw [if_neg (by decide),h.Mg 2 (.inl rfl),if_neg (by decide)];simp
   · rw [if_pos rfl,h.Mg 3 (.inr rfl),if_pos rfl]
     simp only [Option.getD_some]
     rw [CT (by omega)];omega
theorem T4 {b:List Nd} {w5:Mm ByteArray Bool} {w2:Mm Int Int} {w4:Mm ByteArray Bool} (h:Pe b w5 w2 w4) {a:Nd} (ha:a.kind=2) (hb:b.length < 9223372036854775807):Pe (b++[a]) w5 (w2.set a.kind (BU ((w2.get a.kind).getD 0) 1)) (w4.set a.name true):=by
 have hc:=Ms 2 b
 refine ⟨fun x=>(h.lines x).trans ?_,fun x=>?_,fun k hk=>?_⟩
 · simp only [List.mem_append,List.mem_singleton]
   constructor
   · rintro ⟨c,hc,e⟩;exact ⟨c,.inl hc,e⟩
   · rintro ⟨c,hc | rfl,e⟩
     · exact ⟨c,hc,e⟩
     · omega
 · rw [Mm.Dt]
   simp only [List.mem_append,List.mem_singleton]
   by_cases e:x=a.name
   · rw [if_pos e]
     exact ⟨fun _=>⟨a,.inr rfl,ha,e.symm⟩,fun _=>rfl⟩
   · rw [if_neg e,h.facts x]
     constructor
     · rintro ⟨c,hc,q⟩;exact ⟨c,.inl hc,q⟩
     · rintro ⟨c,hc | rfl,q⟩
       · exact ⟨c,hc,q⟩
       · exact absurd q.2.symm e
 · rw [Mm.Dt,ha,Nx]
   simp only [C3,ha]
   rcases hk with rfl | rfl
   · rw [if_pos rfl,h.Mg 2 (.inl rfl),if_pos rfl]
     simp only [Option.getD_some]
     rw [CT (by omega)];omega
   · rw [if_neg (by decide),h.Mg 3 (.inr rfl),if_neg (by decide)];simp
theorem Np:∀ {l b:List Nd} {i:Nat} {w5:Mm ByteArray Bool} {w2:Mm Int Int} {w4:Mm ByteArray Bool} {ds:List Dg},Pe b w5 w2 w4→(∀ a∈l,a.kind=2∨a.kind=3∨a.kind=4)→b.length+l.length≤9223372036854775807→ds.length≤20 →
   ∃ x5 x2 x4,Bk (fun i y x=>BF i y x.1 x.2.1 x.2.2.1 x.2.2.2) (fun x=>(x.1,x.2.1,x.2.2.1,x.2.2.2)) l i (w5,w2,ds,w4)=(some (.inl (x5,x2,cap ds (Jo b l),x4)):Option ((Mm ByteArray Bool×Mm Int Int×List Dg×Mm ByteArray Bool)⊕(Unit×List Dg)))
 | [],b,i,w5,w2,w4,ds,_,_,_,hd=>⟨w5,w2,w4,by rw [Jo,Fb hd];rfl⟩
 | a::l,b,i,w5,w2,w4,ds,hI,hk,hl,hd=>by
   simp only [List.length_cons] at hl
   have next:∀ {x5:Mm ByteArray Bool} {x2:Mm Int Int} {x4:Mm ByteArray Bool} {d2:List Dg},Pe (b++[a]) x5 x2 x4→d2=cap ds (KP b a) →
       ∃ y5 y2 y4,(some (Lp.nx (x5,x2,d2,x4))).bind (HG (Bk (fun i y x=>BF i y x.1 x.2.1 x.2.2.1 x.2.2.2) (fun x=>(x.1,x.2.1,x.2.2.1,x.2.2.2)) l (i+1)))=(some (.inl (y5,y2,cap ds (Jo b (a::l)),y4)):Option ((Mm ByteArray Bool×Mm Int Int×List Dg×Mm ByteArray Bool)⊕(Unit×List Dg))):=by
     rintro x5 x2 x4 d2 h rfl
     obtain ⟨y5,y2,y4,e⟩:=Np (l:=l) (b:=b++[a]) (i:=i+1) (w5:=x5) (w2:=x2) (w4:=x4) (ds:=cap ds (KP b a)) h (fun k hk'=>hk k (by simp [hk'])) (by simp;omega) (Gb _ _)
     exact ⟨y5,y2,y4,by rw [Jo,← GP];exact e⟩
   rw [Bk,BF]
   simp only [DW,Fe,E2,Ph,KS hd,Option.bind_some,mH,Fi]
   rcases hk a (by simp) with k2 | k3 | k4
   · rw [Ac (by omega),Ac (by omega),Af k2]
     have hI':=T4 hI k2 (by omega)
     have ed:∀ {x y:List Dg},KP b a=AU (∃ c∈b,c.kind=2∧c.name=a.name) [⟨5,a.att⟩] (AU (32≤C3 2 b) [⟨2,a.att⟩] []):=by
       intro _ _
       unfold KP
       rw [Af (.inl k2),k2]
       congr 2
       exact Ac fun q=>by omega
     by_cases h5:((w4.get a.name).getD false=true)
     · rw [Af h5]
       refine next hI' ?_
       rw [ed (x:=[]) (y:=[]),Af ((hI.facts _).1 h5)]
     · rw [Ac h5]
       have hn:=fun q=>h5 ((hI.facts _).2 q)
       rw [Mm.Dt,if_pos rfl,k2,hI.Mg 2 (.inl rfl)]
       simp only [Option.getD_some]
       have hc:=Ms 2 b
       rw [CT (by omega)]
       by_cases h32:32≤C3 2 b
       · rw [Af (by omega)]
         rw [k2,hI.Mg 2 (.inl rfl),CT (by omega)] at hI'
         refine next hI' ?_
         rw [ed (x:=[]) (y:=[]),Ac hn,Af h32]
       · rw [Ac (by omega)]
         rw [k2,hI.Mg 2 (.inl rfl),CT (by omega)] at hI'
         refine next hI' ?_
         rw [ed (x:=[]) (y:=[]),Ac hn,Ac h32,Fb hd]
   · rw [Ac (by omega),Af k3]
     have hI':=T5 hI k3 (by omega)
     have ed:∀ {x y:List Dg},KP b a=AU (∃ c∈b,c.kind=3∧c.name=a.name) [⟨5,a.att⟩] (AU (32≤C3 3 b) [⟨2,a.att⟩] (AU (a.unit=AO∨(a.n≠4∧¬ XM a.unit)) [⟨11,a.att⟩] [])):=by
       intro _ _
       unfold KP
       rw [Af (.inr k3),k3]
       simp only [true_and]
     by_cases h5:((w5.get a.name).getD false=true)
     · rw [Af h5]
       refine next hI' ?_
       rw [ed (x:=[]) (y:=[]),Af ((hI.lines _).1 h5)]
     · rw [Ac h5]
       have hn:=fun q=>h5 ((hI.lines _).2 q)
       rw [Mm.Dt,if_pos rfl,k3,hI.Mg 3 (.inr rfl)]
       simp only [Option.getD_some]
       have hc:=Ms 3 b
       rw [CT (by omega)]
       rw [k3,hI.Mg 3 (.inr rfl),CT (by omega)] at hI'
       by_cases h32:32≤C3 3 b
       · rw [Af (by omega)]
         refine next hI' ?_
         rw [ed (x:=[]) (y:=[]),Ac hn,Af h32]
       · rw [Ac (by omega)]
         by_cases ht:a.unit=AO
         · rw [Af ht]
           refine next hI' ?_
           rw [ed (x:=[]) (y:=[]),Ac hn,Ac h32,Af (.inl ht)]
         · rw [Ac ht]
           by_cases h4:a.n=4
           · rw [Af h4]
             refine next hI' ?_
             rw [ed (x:=[]) (y:=[]),Ac hn,Ac h32,Ac (fun q=>q.elim ht fun r=>r.1 h4),Fb hd]
           · rw [Ac h4]
             by_cases hc2:XM a.unit
             · rw [Af hc2]
               refine next hI' ?_
               rw [ed (x:=[]) (y:=[]),Ac hn,Ac h32,Ac (fun q=>q.elim ht fun r=>r.2 hc2),Fb hd]
             · rw [Ac hc2]
               refine next hI' ?_
               rw [ed (x:=[]) (y:=[]),Ac hn,Ac h32,Af (.inr ⟨h4,hc2⟩)]
   · rw [Af k4]
     refine next (U3 hI k4) ?_
     have:KP b a=[]:=by unfold KP;rw [Ac (by omega)]
     rw [this,Fb hd]
theorem Zs {n:Nd} (hok:E1 n) (hk:∀ a∈n.kids,a.kind=2∨a.kind=3∨a.kind=4):B7 n []=some ((),cap [] (Jo [] n.kids)):=by
 obtain ⟨hps,hkl,hks⟩:=GG hok
 obtain ⟨x5,x2,x4,e⟩:=Np (l:=n.kids) (b:=[]) (i:=0) (ds:=[]) We hk (by simp;omega) (by simp)
 rw [B7,FR hkl,List.drop_zero,e]
 rfl
theorem LW {src a:Nd}:∀ {l:List Nd} {i:Nat} {ds:List Dg},ds.length≤20→Bk (fun i y x=>BG (PW src) a i y x) (fun x=>x) l i ds=(some (.inl (cap ds (l.flatMap (E8 src a)))):Option (List Dg⊕(Unit×List Dg)))
 | [],i,ds,hd=>by rw [List.flatMap_nil,Fb hd];rfl
 | k::l,i,ds,hd=>by
   rw [Bk,BG,List.flatMap_cons,← GP]
   simp only [DW,KS hd,Option.bind_some,mH,Fi,Pm]
   have next:∀ {d2:List Dg},d2=cap ds (E8 src a k)→(some (Lp.nx d2)).bind (HG (Bk (fun i y x=>BG (PW src) a i y x) (fun x=>x) l (i+1)))=(some (.inl (cap (cap ds (E8 src a k)) (l.flatMap (E8 src a)))):Option (List Dg⊕(Unit×List Dg))):=by
     rintro _ rfl
     exact LW (Gb _ _)
   unfold E8
   by_cases h:k.n=a.n
   · rw [Af h]
     have:=next (d2:=cap ds [⟨101,k.att⟩]) (by unfold E8;rw [Af h])
     unfold E8 at this
     rw [Af h] at this ⊢
     exact this
   · rw [Ac h]
     by_cases h2:(fA src.kids k.n).isSome=true
     · rw [Af h2]
       have hn:¬ fA src.kids k.n=none:=fun e=>by rw [e] at h2;cases h2
       have:=next (d2:=ds) (by unfold E8;rw [Ac h,Ac hn,Fb hd])
       unfold E8 at this
       rw [Ac h] at this ⊢
       exact this
     · rw [Ac h2]
       have hn:fA src.kids k.n=none:=by simpa using h2
       have:=next (d2:=cap ds [⟨91,k.att⟩]) (by unfold E8;rw [Ac h,Af hn])
       unfold E8 at this
       rw [Ac h] at this ⊢
       exact this
theorem Xc {src a x:Nd} (hok:E1 x) (hc:G1 x) (hs:DB x≤2000) (h68:x.kind=6∨x.kind=7∨x.kind=8) {ds:List Dg} (hd:ds.length≤20):A8 (PW src) a x ds=some ((),cap ds (GR src a x)):=by
 obtain ⟨hps,hkl,hks⟩:=GG hok
 rw [A8]
 simp only [DW,E2,mH,Fi,MH]
 unfold GR
 by_cases k7:x.kind=7
 · rw [Af k7,Af k7,FR hkl,List.drop_zero,LW hd];rfl
 rw [Ac k7,Ac k7]
 obtain ⟨h1,h2⟩:=hc.2.2 k7
 have hsz:=Cm x
 generalize x.kids=ks at *
 match ks,h1 with
 | [k],_ =>
 have hek:=h2 k (by simp)
 have hsk:DB k≤2000:=by simp [Er] at hsz;omega
 simp only [List.getElem?_cons_zero,Option.bind_some,List.flatMap_cons,List.flatMap_nil,List.append_nil]
 rw [Y2 hek hsk,Uo src k hd]
 simp only [Option.bind_some]
 rw [KS (Gb _ _)]
 simp only [Option.bind_some,GP]
 have key:∀ w:ByteArray,AU ((So src k).1=ByteArray.empty) (some ((),cap ds (So src k).2)) (AU (w=ByteArray.empty) (some ((),cap ds (So src k).2)) (AU ((So src k).1=w) (some ((),cap ds (So src k).2)) (some ((),cap ds ((So src k).2++[⟨11,k.att⟩])))))=some ((),cap ds (QO src w k)):=by
   intro w
   unfold QO
   by_cases a1:(So src k).1=eS
   · rw [Af a1,Ac fun q=>q.1 a1,List.append_nil]
   rw [Ac a1]
   by_cases a2:w=eS
   · rw [Af a2,Ac fun q=>q.2.1 a2,List.append_nil]
   rw [Ac a2]
   by_cases a3:(So src k).1=w
   · rw [Af a3,Ac fun q=>q.2.2 a3,List.append_nil]
   rw [Ac a3,Af ⟨a1,a2,a3⟩]
 by_cases k6:x.kind=6
 · rw [Af k6,Af k6];exact key AO
 · rw [Ac k6,Ac k6];exact key (line src a.name)
theorem KO {src a:Nd} {body:Nat→Nd→List Dg→Option (Lp (List Dg) (List Dg) (List Dg))} (hb:∀ i y x,body i y x=(A8 (PW src) a y x).bind fun (_,b)=>some (.nx b)) :
   ∀ {l:List Nd} {i:Nat} {ds:List Dg},(∀ x∈l,E1 x∧G1 x∧DB x≤2000∧(x.kind=6∨x.kind=7∨x.kind=8))→ds.length≤20→Bk body (fun x=>x) l i ds=(some (.inl (cap ds (l.flatMap (GR src a)))):Option (List Dg⊕List Dg))
 | [],i,ds,_,hd=>by rw [List.flatMap_nil,Fb hd];rfl
 | x::l,i,ds,h,hd=>by
   obtain ⟨h1,h2,h3,h4⟩:=h x (by simp)
   rw [Bk,hb,Xc h1 h2 h3 h4 hd,List.flatMap_cons,← GP]
   exact KO hb (fun y hy=>h y (by simp [hy])) (Gb _ _)
theorem Lh {src:Nd}:∀ {l:List Nd} {i:Nat} {c:Nat} {ds:List Dg},(∀ a∈l,E1 a∧Gm a∧DB a≤2000)→c+l.length≤9223372036854775807→ds.length≤20→∃ z,Bk (fun i y x=>D9 (PW src) i y x.1 x.2) (fun x=>x.2) l i (((c:Nat):Int),ds)=(some (.inl z):Option (List Dg⊕List Dg))∧z=cap ds (LV src c l)
 | [],i,c,ds,_,_,hd=>⟨ds,rfl,by rw [LV,Fb hd]⟩
 | a::l,i,c,ds,h,hc,hd=>by
   simp only [List.length_cons] at hc
   obtain ⟨hok,hit,hsz⟩:=h a (by simp)
   obtain ⟨hps,hkl,hks⟩:=GG hok
   rw [Bk,D9,LV,← GP]
   simp only [DW,Fe,E2,mH,Fi,KS hd,Option.bind_some,MH,Pm]
   unfold WQ
   by_cases k4:a.kind=4
   rotate_left
   · rw [Ac k4,Ac k4,Fb hd]
     have e:c+C3 4 [a]=c:=by simp [C3,k4]
     rw [e]
     exact Lh (fun y hy=>h y (by simp [hy])) (by omega) hd
   rw [Af k4,Af k4]
   obtain ⟨_,_,_,x,cs,hkids,hkin,_,_,_,hcl⟩:=(oU k4).1 hit
   have e:c+C3 4 [a]=c+1:=by simp [C3,k4]
   rw [e]
   have hcs:∀ y∈cs,E1 y∧G1 y∧DB y≤2000∧(y.kind=6∨y.kind=7∨y.kind=8):=by
     intro y hy
     have hm:y∈a.kids:=by rw [hkids];simp [hy]
     have:=hkin y hy
     exact ⟨hks y hm,hcl y hy,by have:=Ge hm;omega,by omega⟩
   have hsub:FZ a.kids 1 ((a.kids.length:Nat):Int)=some cs:=by
     unfold FZ
     rw [hkids,if_pos (by simp only [List.length_cons];omega)]
     simp
   have hcl':cs.length≤9223372036854775807:=by rw [hkids] at hkl;simp at hkl;omega
   rw [hsub]
   simp only [Option.bind_some,List.drop_zero,FR hcl']
   rw [CT (by omega)]
   have htail:a.kids.tail=cs:=by rw [hkids];rfl
   rw [htail]
   have next:∀ {body:Nat→Nd→List Dg→Option (Lp (List Dg) (List Dg) (List Dg))} {d0:List Dg},(∀ i y x,body i y x=(A8 (PW src) a y x).bind fun (_,b)=>some (.nx b))→d0=cap ds (FU src c a) →
       ∃ z,(((Bk body (fun x=>x) cs 0 d0).bind (Hv (fun (w:List Dg)=>some (Lp.nx (((c:Nat):Int)+1,w))) (fun v=>some (.rt v)))).bind (HG (Bk (fun i y x=>D9 (PW src) i y x.1 x.2) (fun x=>x.2) l (i+1))))=(some (.inl z):Option (List Dg⊕List Dg))∧z=cap (cap ds (FU src c a++cs.flatMap (GR src a))) (LV src (c+1) l):=by
     rintro body _ hb rfl
     rw [KO hb hcs (Gb _ _),GP]
     have ih:=Lh (src:=src) (l:=l) (i:=i+1) (c:=c+1) (ds:=cap ds (FU src c a++cs.flatMap (GR src a))) (fun y hy=>h y (by simp [hy])) (by omega) (Gb _ _)
     rw [show (((c+1:Nat)):Int)=((c:Nat):Int)+1 by omega] at ih
     exact ih
   unfold FU
   by_cases hl:(fU 3 src.kids a.name).isSome=true
   · have hn:¬ fU 3 src.kids a.name=none:=fun e=>by rw [e] at hl;cases hl
     rw [Af hl]
     by_cases h60:60≤c
     · rw [Af (by omega),Af h60]
       have:=next (body:=fun i y x=>FK (PW src) a i y x) (d0:=cap ds [⟨2,a.att⟩]) (fun i y x=>rfl) (by unfold FU;rw [Af h60])
       unfold FU at this
       rw [Af h60] at this
       exact this
     · rw [Ac (by omega),Ac h60,Ac hn]
       by_cases hA:(fA src.kids a.n).getD ByteArray.empty=a.name
       · rw [Af hA]
         have:=next (body:=fun i y x=>Fv (PW src) a i y x) (d0:=ds) (fun i y x=>rfl) (by unfold FU;rw [Ac h60,Ac hn,Ac (fun q=>q hA),Fb hd])
         unfold FU at this
         rw [Ac h60,Ac hn] at this
         exact this
       · rw [Ac hA]
         have:=next (body:=fun i y x=>Fx (PW src) a i y x) (d0:=cap ds [⟨101,a.att⟩]) (fun i y x=>rfl) (by unfold FU;rw [Ac h60,Ac hn,Af hA])
         unfold FU at this
         rw [Ac h60,Ac hn] at this
         exact this
   · have hn:fU 3 src.kids a.name=none:=by simpa using hl
     rw [Ac hl]
     by_cases h60:60≤c
     · rw [Af (by omega),Af h60]
       have:=next (body:=fun i y x=>FA (PW src) a i y x) (d0:=cap ds [⟨2,a.att⟩]) (fun i y x=>rfl) (by unfold FU;rw [Af h60])
       unfold FU at this
       rw [Af h60] at this
       exact this
     · rw [Ac (by omega),Ac h60,Af hn]
       have:=next (body:=fun i y x=>FL (PW src) a i y x) (d0:=cap ds [⟨91,a.att⟩]) (fun i y x=>rfl) (by unfold FU;rw [Ac h60,Af hn])
       unfold FU at this
       rw [Ac h60,Af hn] at this
       exact this
theorem Mx {n:Nd} (h:Re n) (hk:n.kind=1):DF n z0∧(∀ k∈n.kids,Gm k)∧DB n≤2000∧JM n≤40:=by
 obtain ⟨a | a,b⟩:=h
 · exact ⟨a.2.1,a.2.2,b⟩
 · exact absurd hk a.1
theorem YE {src:Nd} (hs:E1 src):En src=some (FY src):=by
 obtain ⟨hps,hkl,hks⟩:=GG hs
 rw [En,SZ hs,XE hs]
 simp only [Option.bind_some,DW,D5]
 unfold FY
 by_cases k1:src.kind=1
 rotate_left
 · rw [Ac k1,Ac fun q=>k1 q.1]
 rw [Af k1]
 by_cases v:Re src
 rotate_left
 · rw [Ac v,Ac fun q=>v q.2]
 rw [Af v,Af ⟨k1,v⟩]
 obtain ⟨_,hit,hsz,_⟩:=Mx v k1
 have hkind:∀ a∈src.kids,a.kind=2∨a.kind=3∨a.kind=4:=fun a ha=>Tj (hit a ha)
 rw [show Ey=some () from rfl,Zs hs hkind]
 simp only [Option.bind_some]
 rw [FR hkl,List.drop_zero]
 obtain ⟨z,e,rfl⟩:=Lh (src:=src) (l:=src.kids) (i:=0) (c:=0) (ds:=cap [] (Jo [] src.kids)) (fun a ha=>⟨hks a ha,hit a ha,by have:=Ge ha;omega⟩) (by omega) (Gb _ _)
 have e':(((0:Nat):Int))=0:=rfl
 rw [e'] at e
 rw [e,GP]
 rfl
end Mo
end Go.Proofs.YtnijkdknnmgoeaaGreat
namespace Go.Proofs.YtnijkdknnmgoeaaGreat
open AI Go
namespace Mo
set_option maxRecDepth 100000
set_option maxHeartbeats 4000000
theorem Qk {F:ByteArray→ByteArray} {A:Int→ByteArray} {e:Nd} (h:(N2 F A e).2=[]):(∀ k∈e.kids,(N2 F A k).2=[])∧((∀ u∈(HX F A e.kids).1,u≠eS)→HE F A e (HX F A e.kids).1≠eS):=by
 have hr:(HX F A e.kids).2=[]∧((∀ u∈(HX F A e.kids).1,u≠eS)→HE F A e (HX F A e.kids).1≠eS):=by
   rw [Xi] at h
   unfold Zf at h
   generalize HX F A e.kids=r at *
   by_cases h1:∀ u∈r.1,u≠eS
   · rw [Af h1] at h
     by_cases h2:HE F A e r.1=eS
     · rw [Af h2] at h;exact absurd h (by simp)
     · rw [Ac h2] at h;exact ⟨h,fun _=>h2⟩
   · rw [Ac h1] at h;exact ⟨h,fun q=>absurd q h1⟩
 refine ⟨fun k hk=>?_,hr.2⟩
 have hr:=hr.1
 rw [Q7] at hr
 exact List.flatMap_eq_nil_iff.1 hr k hk
theorem RX {k:Int} {x:ByteArray}:∀ {l:List Nd},fU k l x≠none→∃ a∈l,a.kind=k∧a.name=x
 | [],h=>absurd (by rw [fU]) h
 | a::l,h=>by
   rcases Pt h with h | h
   · exact ⟨a,by simp,h⟩
   · obtain ⟨b,hb,h⟩:=RX h
     exact ⟨b,by simp [hb],h⟩
def RU (src:Nd):Prop:=∀ a∈src.kids,a.kind=4→(fA src.kids a.n).getD eS=a.name∧fU 3 src.kids a.name≠none
theorem cG {src:Nd} (hit:∀ k∈src.kids,Gm k) (hart:RU src):∀ (m:Nat) (e:Nd),DB e≤m→Mb e→(So src e).2=[]→Ij (Gv src.kids) e:=by
 intro m
 induction m with
 | zero=>intro e h;have:=Cm e;omega
 | succ m ih =>
   intro e hm he hd
   obtain ⟨hq,hks⟩:=(Ju e).1 he
   obtain ⟨hk0,hu⟩:=Qk hd
   rw [OX]
   have hun:e.kids.length=0→HE (fact src) (kH src) e []≠eS:=fun h=>by
     have hn:=List.eq_nil_of_length_eq_zero h
     rw [hn,HX] at hu
     exact hu (by simp)
   unfold JR at hq
   refine ⟨fun k=>?_,fun k=>?_,fun k=>?_,fun k=>?_,fun k=>?_,fun k hk=>ih k (by have:=Ge hk;omega) (hks k hk) (hk0 k hk)⟩
   · rcases hq with h | h | h | h | h | h | h | h<;>first | (have:=h.1;omega) | (have:=h.2.2.1;omega)
   · rcases hq with h | h | h | h | h | h | h | h<;>first | (have:=h.1;omega) | (have:=h.2.2.2;omega)
   · have hl:e.kids.length=0:=by
       rcases hq with h | h | h | h | h | h | h | h<;>first | (have:=h.1;omega) | exact h.2.2.1
     have h:=hun hl
     unfold HE at h
     rw [Ac (by omega),Af k] at h
     refine YC (fun hn=>h ?_)
     unfold fact
     rw [hn];rfl
   · have hl:e.kids.length=0:=by
       rcases hq with h | h | h | h | h | h | h | h<;>first | (have:=h.1;omega) | exact h.2.2.1
     have h:=hun hl
     unfold HE at h
     rw [Ac (by omega),Ac (by omega),Af k] at h
     unfold kH line at h
     have h3:fU 3 src.kids ((fA src.kids e.n).getD eS)≠none:=fun hn=>h (by rw [hn];rfl)
     cases hfa:fA src.kids e.n with
     | none =>
       rw [hfa] at h3
       obtain ⟨a,ha,ha1,ha2⟩:=RX h3
       have h4:=((sG ha1).1 (hit a ha)).1
       rw [ha2] at h4
       exact absurd h4 (by unfold I1;simp [eS])
     | some w =>
       rw [hfa] at h3
       refine gK (w:=w) (fun a ha a4 an=>?_) (by rw [hfa];simp) h3
       have:=(hart a ha a4).1
       rw [an,hfa] at this
       exact this.symm
   · rcases hq with h | h | h | h | h | h | h | h<;>first | (have:=h.1;omega) | (have:=h.2.2.1;unfold SB at this;omega)
end Mo
end Go.Proofs.YtnijkdknnmgoeaaGreat
namespace Go.Proofs.YtnijkdknnmgoeaaGreat
open AI Go
namespace Mo
set_option maxRecDepth 100000
set_option maxHeartbeats 4000000
theorem LD {src:Nd}:∀ {l:List Nd} {c:Nat},LV src c l=[]→∀ a∈l,∃ c',WQ src c' a=[]
 | [],_,_,a,ha=>by cases ha
 | b::l,c,h,a,ha=>by
   rw [LV,List.append_eq_nil_iff] at h
   rcases List.mem_cons.1 ha with rfl | ha
   · exact ⟨_,h.1⟩
   · exact LD h.2 a ha
theorem UC {src:Nd} {c:Nat} {a:Nd} (h:FU src c a=[]):(fA src.kids a.n).getD eS=a.name∧fU 3 src.kids a.name≠none:=by
 unfold FU at h
 by_cases h1:60≤c
 · rw [Af h1] at h;cases h
 rw [Ac h1] at h
 by_cases h2:fU 3 src.kids a.name=none
 · rw [Af h2] at h;cases h
 rw [Ac h2] at h
 by_cases h3:(fA src.kids a.n).getD eS≠a.name
 · rw [Af h3] at h;cases h
 · exact ⟨by simpa using h3,h2⟩
theorem Oo {src:Nd} (hv:Re src) (hk:src.kind=1) (hc:FY src=[]):PE src=[]:=by
 unfold FY at hc
 rw [Af ⟨hk,hv⟩] at hc
 unfold cap at hc
 rw [List.nil_append] at hc
 rcases List.take_eq_nil_iff.1 hc with h | h
 · omega
 · exact h
theorem checked {src:Nd} (hv:Re src) (hk:src.kind=1) (hc:FY src=[]):RU src∧∀ it∈src.kids,it.kind=4→To (Gv src.kids) it:=by
 have hr:=Oo hv hk hc
 unfold PE at hr
 have hr:=(List.append_eq_nil_iff.1 hr).2
 obtain ⟨_,hit,_,_⟩:=Mx hv hk
 have hh:∀ a∈src.kids,a.kind=4→(∃ c,FU src c a=[])∧∀ x∈a.kids.tail,GR src a x=[]:=fun a ha k4=>by
   obtain ⟨c,h⟩:=LD hr a ha
   unfold WQ at h
   rw [Af k4,List.append_eq_nil_iff] at h
   exact ⟨⟨c,h.1⟩,List.flatMap_eq_nil_iff.1 h.2⟩
 have hart:RU src:=fun a ha k4=>by
   obtain ⟨c,h⟩:=(hh a ha k4).1
   exact UC h
 refine ⟨hart,fun it hi k4=>?_⟩
 obtain ⟨_,_,_,h,cs,hkids,_,_,_,_,hcl⟩:=(oU k4).1 (hit it hi)
 refine ⟨by rw [hkids];simp,fun e he k7=>?_⟩
 have hce:=(hh it hi k4).2 e he
 rw [hkids,List.tail_cons] at he
 obtain ⟨hl,hex⟩:=(hcl e he).2.2 k7
 cases hek:e.kids with
 | nil=>rw [hek] at hl;cases hl
 | cons k l =>
   refine ⟨k,rfl,?_⟩
   have hkm:k∈e.kids:=by rw [hek];simp
   unfold GR at hce
   rw [Ac k7] at hce
   have hw:=List.flatMap_eq_nil_iff.1 hce k hkm
   unfold QO at hw
   exact cG hit hart (DB k) k (Nat.le_refl _) (hex k hkm) (List.append_eq_nil_iff.1 hw).1
noncomputable def BJ (n:Nd):Co×List Dg :=
 AU (n.kind=1∧Re n) (AU (FY n=[]) (AU ((Hq (Gv n.kids) n.kids).1=[]) (⟨(Gv n.kids).codex.facts,(Gv n.kids).codex.lines,(Hq (Gv n.kids) n.kids).2⟩,[]) (⟨[],[],[]⟩,(Hq (Gv n.kids) n.kids).1.take 20)) (⟨[],[],[]⟩,FY n)) (⟨[],[],[]⟩,[⟨1,0⟩])
theorem On {n:Nd} (hn:E1 n) (hz:DB n≤100000):Ch n=some (BJ n):=by
 unfold BJ
 have hV:=SZ hn
 have hC:=YE hn
 by_cases hk:n.kind=1
 rotate_left
 · rw [Ac (fun q=>hk q.1),Ch,H2,Ac hk]
 by_cases hv:Re n
 rotate_left
 · rw [Ac (fun q=>hv q.2),Ch,H2,Af hk,hV,Option.bind_some,D5,Ac hv]
 rw [E4 (q:=True) ⟨fun _=>trivial,fun _=>hv⟩,← s8] at hV
 rw [Af ⟨hk,hv⟩]
 by_cases hc:FY n=[]
 · rw [Af hc]
   rw [hc] at hC
   exact XO hk hV hC hz (checked hv hk hc).2
 · rw [Ac hc,Ch,H2,Af hk,hV,Option.bind_some,cond_true,hC,Option.bind_some,ZT,Af]
   have:=List.length_pos_iff.2 hc
   omega
theorem Ni {n:Nd} (h:(BJ n).2=[]):n.kind=1∧Re n∧FY n=[]∧(Hq (Gv n.kids) n.kids).1=[]∧BJ n=(⟨(Gv n.kids).codex.facts,(Gv n.kids).codex.lines,(Hq (Gv n.kids) n.kids).2⟩,[]):=by
 unfold BJ at h ⊢
 by_cases h1:n.kind=1∧Re n
 rotate_left
 · rw [Ac h1] at h;cases h
 rw [Af h1] at h ⊢
 by_cases h2:FY n=[]
 rotate_left
 · rw [Ac h2] at h;exact absurd h h2
 rw [Af h2] at h ⊢
 by_cases h3:(Hq (Gv n.kids) n.kids).1=[]
 · rw [Af h3];exact ⟨h1.1,h1.2,h2,h3,rfl⟩
 · rw [Ac h3] at h
   rcases List.take_eq_nil_iff.1 h with h | h
   · omega
   · exact absurd h h3
end Mo
end Go.Proofs.YtnijkdknnmgoeaaGreat
namespace Go.Proofs.YtnijkdknnmgoeaaGreat
open AI Go
namespace Mo
set_option maxRecDepth 100000
set_option maxHeartbeats 4000000
theorem tO {src:Nd} (hit:∀ k∈src.kids,Gm k) {t u:Tr} (hu:∀ z,fA src.kids z≠none→t.Aa.get z=u.Aa.get z):∀ (m:Nat) (e:Nd),DB e≤m→Mb e→(So src e).2=[]→Pr t u e:=by
 intro m
 induction m with
 | zero=>intro e h;have:=Cm e;omega
 | succ m ih =>
   intro e hm he hd
   obtain ⟨hq,hks⟩:=(Ju e).1 he
   obtain ⟨hk0,hw⟩:=Qk hd
   rw [SU]
   refine ⟨fun k=>?_,fun k hk=>ih k (by have:=Ge hk;omega) (hks k hk) (hk0 k hk)⟩
   unfold JR at hq
   have hl:e.kids.length=0:=by
     rcases hq with h | h | h | h | h | h | h | h<;>first | (have:=h.1;omega) | exact h.2.2.1
   have hn:=List.eq_nil_of_length_eq_zero hl
   rw [hn,HX] at hw
   have h:=hw (by simp)
   unfold HE at h
   rw [Ac (by omega),Ac (by omega),Af k] at h
   unfold kH line at h
   have h3:fU 3 src.kids ((fA src.kids e.n).getD eS)≠none:=fun hn=>h (by rw [hn];rfl)
   refine hu _ (fun hfa=>?_)
   rw [hfa] at h3
   obtain ⟨a,ha,ha1,ha2⟩:=RX h3
   have h4:=((sG ha1).1 (hit a ha)).1
   rw [ha2] at h4
   exact absurd h4 (by unfold I1;simp [eS])
theorem eI {t u:Tr} {k:Nd} (h:Mb k) (hn:k.kind=11):Pr t u k:=by
 obtain ⟨hq,_⟩:=(Ju k).1 h
 unfold JR at hq
 have hl:k.kids.length=0:=by
   rcases hq with h | h | h | h | h | h | h | h<;>first | exact h.2.2.2.2.2.1 | (have:=h.1;omega)
 rw [SU,List.eq_nil_of_length_eq_zero hl]
 exact ⟨fun q=>by omega,fun k hk=>by cases hk⟩
theorem fB {src:Nd} (hv:Re src) (hk:src.kind=1) (hc:FY src=[]) {t u:Tr} (hu:∀ z,fA src.kids z≠none→t.Aa.get z=u.Aa.get z):∀ it∈src.kids,it.kind=4→∀ e∈it.kids.tail,Pr t u (e.kids.headD e):=by
 have hr:=Oo hv hk hc
 unfold PE at hr
 have hr:=(List.append_eq_nil_iff.1 hr).2
 obtain ⟨_,hit,_,_⟩:=Mx hv hk
 intro it hi k4 e he
 obtain ⟨c,h⟩:=LD hr it hi
 unfold WQ at h
 rw [Af k4,List.append_eq_nil_iff] at h
 have hce:=List.flatMap_eq_nil_iff.1 h.2 e he
 obtain ⟨_,_,_,h,cs,hkids,_,_,_,_,hcl⟩:=(oU k4).1 (hit it hi)
 rw [hkids,List.tail_cons] at he
 obtain ⟨_,c7,cn⟩:=hcl e he
 by_cases k7:e.kind=7
 · obtain ⟨hl,hex⟩:=c7 k7
   cases hek:e.kids with
   | nil=>rw [hek] at hl;cases hl
   | cons k l =>
     have:=hex k (by rw [hek];simp)
     exact eI this.1 this.2.1
 · obtain ⟨hl,hex⟩:=cn k7
   cases hek:e.kids with
   | nil=>rw [hek] at hl;cases hl
   | cons k l =>
     have hkm:k∈e.kids:=by rw [hek];simp
     unfold GR at hce
     rw [Ac k7] at hce
     have hw:=List.flatMap_eq_nil_iff.1 hce k hkm
     unfold QO at hw
     exact tO hit hu (DB k) k (Nat.le_refl _) (hex k hkm) (List.append_eq_nil_iff.1 hw).1
theorem Ro {t u:Tr} (hf:t.codex.facts=u.codex.facts) (hl:t.codex.lines=u.codex.lines) (hm:t.facts=u.facts) (hn:t.lines=u.lines) {l:List Nd} (h:∀ it∈l,it.kind=4→∀ e∈it.kids.tail,Pr t u (e.kids.headD e)):Hq t l=Hq u l:=by
 unfold Hq
 generalize (([],[]):List Dg×List Ar)=s
 induction l generalizing s with
 | nil=>rfl
 | cons k l ih =>
   rw [List.foldl_cons,List.foldl_cons,show b1 t s k=b1 u s k by
     unfold b1
     by_cases k4:k.kind=4
     · rw [Af k4,Af k4,Jg hf hl hm (h k (by simp) k4),O0 hf hl hm hn (h k (by simp) k4)]
     · rw [Ac k4,Ac k4]]
   exact ih (fun it hi=>h it (by simp [hi])) _
theorem eR {n m:Nd} {a:Nd} (ha:a.kind=4) (hm:m.kids=n.kids++[a]) (h1:(BJ n).2=[]) (h2:(BJ m).2=[]) :
   (BJ m).1.facts=(BJ n).1.facts∧(BJ m).1.lines=(BJ n).1.lines∧∃ x,(BJ m).1.arts=(BJ n).1.arts++[x]:=by
 obtain ⟨nk,nv,nc,nb,ne⟩:=Ni h1
 obtain ⟨mk,mv,mc,mb',me⟩:=Ni h2
 rw [ne,me]
 have hnt:DK m.kids=DK n.kids:=by
   unfold DK
   rw [hm,List.foldl_append]
   show N4 _ a=_
   unfold N4
   rw [Ac (by omega),Ac (by omega)]
 have hart:=(checked mv mk mc).1
 have hfm:∀ b∈m.kids,b.kind=4→b.n=a.n→b.name=a.name:=fun b hb b4 bn=>by
   have e1:=(hart b hb b4).1
   have e2:=(hart a (by rw [hm];simp) ha).1
   rw [bn] at e1
   exact e1.symm.trans e2
 have hu:∀ z,fA n.kids z≠none→(Gv n.kids).Aa.get z=(Gv m.kids).Aa.get z:=fun z hz=>by
   show (PX (DK n.kids).2.2.2 n.kids).get z=(PX (DK m.kids).2.2.2 m.kids).get z
   rw [hnt]
   generalize (DK n.kids).2.2.2=lm
   have hna:PX lm m.kids=(PX lm n.kids).set a.n ((lm.get a.name).getD 0):=by
     unfold PX
     rw [hm,List.foldl_append]
     show bD lm _ a=_
     unfold bD
     rw [Af ha]
   rw [hna,Mm.Dt]
   split
   · rename_i hza
     subst hza
     exact PS n.kids Mm.nil (fun b hb=>hfm b (by rw [hm];simp [hb])) (.inr hz)
   · rfl
 have hbl:Hq (Gv n.kids) n.kids=Hq (Gv m.kids) n.kids:=by
   refine Ro ?_ ?_ ?_ ?_ (fB nv nk nc hu)
   · show (DK n.kids).1=(DK m.kids).1;rw [hnt]
   · show (DK n.kids).2.2.1=(DK m.kids).2.2.1;rw [hnt]
   · show (DK n.kids).2.1=(DK m.kids).2.1;rw [hnt]
   · show (DK n.kids).2.2.2=(DK m.kids).2.2.2;rw [hnt]
 refine ⟨?_,?_,Wv (Gv m.kids) a,?_⟩
 · show (DK m.kids).1=(DK n.kids).1;rw [hnt]
 · show (DK m.kids).2.2.1=(DK n.kids).2.2.1;rw [hnt]
 · show (Hq (Gv m.kids) m.kids).2=(Hq (Gv n.kids) n.kids).2++_
   rw [hbl]
   have hx:Hq (Gv m.kids) m.kids=b1 (Gv m.kids) (Hq (Gv m.kids) n.kids) a:=by
     generalize Gv m.kids=t
     unfold Hq
     rw [hm,List.foldl_append]
     rfl
   rw [hx]
   unfold b1
   rw [Af ha]
end Mo
end Go.Proofs.YtnijkdknnmgoeaaGreat
namespace Go.Proofs.YtnijkdknnmgoeaaGreat
open AI Go
namespace Mo
set_option maxRecDepth 100000
set_option maxHeartbeats 4000000
mutual
def Lj:Ex→Prop
 | ⟨_,_,_,tab,kids⟩=>tab.ps.length≤1000∧Ue kids
def Ue:List Ex→Prop
 | []=>True
 | k::ks=>Lj k∧Ue ks
end
theorem Jk {l:List Ex}:Ue l↔∀ k∈l,Lj k:=by
 induction l with
 | nil=>simp [Ue]
 | cons k l ih=>simp [Ue,ih]
theorem Yf (e:Ex):Lj e↔e.tab.ps.length≤1000∧∀ k∈e.kids,Lj k:=by cases e;rw [Lj,Jk]
theorem Jv {α:Type} {l:List α} {body:Nat→α→Unit→Option (Lp Unit Unit Bool)} (hl:l.length≤9223372036854775807) (hb:∀ i y,l[i]?=some y→body i y ()=some (.nx ())):(G8 l.length (Bk body (fun _=>()) (l.drop 0) 0 ())).bind (Hv (fun (_:Unit)=>some true) (fun v=>some v))=some true:=by
 rw [KD]
 refine GU (fun _ _=>True) hl trivial (fun i y x hy _=>?_) (fun x _=>?_)
 · rw [hb i y hy,Cb,GL];trivial
 · rw [Cb]
theorem Uy (x:ByteArray):(x == x)=true:=by
 first
   | exact beq_self_eq_true x
   | (cases x;rename_i d;show (d == d)=true;simp)
   | (cases x;rename_i d;simp [BEq.beq])
theorem QK (x:Dc):Lg x x=true:=by unfold Lg;simp [Uy]
theorem Q1 (x:Pc):II x x=true:=by unfold II;simp
theorem RM (f:Fn) (h:f.ps.length≤9223372036854775807):D3 f f=some true:=by
 rw [D3]
 simp only [H2]
 rw [Af trivial,Af trivial]
 refine Jv h (fun i y hy=>?_)
 rw [Eu,hy,Option.bind_some,Q1,cond_true]
theorem iG:∀ (q:Nat) (e:Ex),JG e≤q→JG e≤1000000→Lj e→DP q e e=some true:=by
 intro q
 induction q with
 | zero=>intro e h;have:=NE e;omega
 | succ q ih =>
   intro e hq hz ho
   have he:=NE e
   have hl:=Qi e.kids
   obtain ⟨h1,h2⟩:=(Yf e).1 ho
   rw [DP,GX]
   simp only [H2,Qj]
   rw [Af trivial,Af trivial,Af trivial,RM _ (by omega),Option.bind_some,cond_true,Af trivial]
   refine Jv (by omega) (fun i y hy=>?_)
   have hm:=List.mem_of_getElem? hy
   have:=QR hm
   rw [Gf,hy,Option.bind_some,ih y (by omega) (by omega) (h2 y hm),Option.bind_some,cond_true]
theorem Vl {e:Ex} (hz:JG e≤1000000) (ho:Lj e):GW e e=some true:=Ka (JG e) fun q hq=>iG q e hq hz ho
theorem M1 (l:List Dc) (h:l.length≤9223372036854775807):Da l l=some true:=by
 rw [Da]
 simp only [H2]
 rw [Af trivial]
 refine Jv h (fun i y hy=>?_)
 rw [El,hy,Option.bind_some,QK,cond_true]
theorem QA (l:List Ex) (h:l.length≤9223372036854775807) (hx:∀ e∈l,JG e≤1000000∧Lj e):DN l l=some true:=by
 rw [DN]
 simp only [H2]
 rw [Af trivial]
 refine Jv h (fun i y hy=>?_)
 obtain ⟨h1,h2⟩:=hx y (List.mem_of_getElem? hy)
 rw [Eg,hy,Option.bind_some,Vl h1 h2,Option.bind_some,cond_true]
theorem R5 (l:List Int) (h:l.length≤9223372036854775807):D7 l l=some true:=by
 rw [D7]
 simp only [H2]
 rw [Af trivial]
 refine Jv h (fun i y hy=>?_)
 rw [Ez,hy,Option.bind_some,H2,Af rfl]
def aP (a:Ar):Prop:=a.wh.length≤1000000∧a.un.length≤1000000∧(∀ e∈a.wh,JG e≤1000000∧Lj e)∧JG a.am≤1000000∧Lj a.am
theorem Ry {a:Ar} (h:aP a):Dm a a=some true:=by
 obtain ⟨h1,h2,h3,h4,h5⟩:=h
 rw [Dm]
 simp only [H2]
 rw [Af trivial,Af trivial,Af trivial,Af trivial,Af trivial,Af trivial,QA _ (by omega) h3,Option.bind_some,cond_true,R5 _ (by omega),Option.bind_some,cond_true,Vl h4 h5,Option.bind_some]
theorem Sk {c:Co} (h1:c.facts.length≤1000000) (h2:c.lines.length≤1000000) (h3:c.arts.length≤1000000) (h4:∀ a∈c.arts,aP a):Cs c c=some true:=by
 rw [Cs,M1 _ (by omega),Option.bind_some,cond_true,M1 _ (by omega),Option.bind_some,cond_true]
 simp only [H2]
 rw [Af trivial]
 refine Jv (by omega) (fun i y hy=>?_)
 rw [Ec,hy,Option.bind_some,Ry (h4 y (List.mem_of_getElem? hy)),Option.bind_some,cond_true]
end Mo
end Go.Proofs.YtnijkdknnmgoeaaGreat
namespace Go.Proofs.YtnijkdknnmgoeaaGreat
open AI Go
namespace Mo
set_option maxRecDepth 100000
set_option maxHeartbeats 4000000
theorem SO (l m:List Nd):Er (l++m)=Er l+Er m:=by
 induction l with
 | nil=>simp [Er]
 | cons a l ih=>simp only [List.cons_append,Er,ih];omega
theorem Vq {l:List Nd} {i:Nat} {y:Nd} (h:l[i]?=some y):Er (l.take (i+1))=Er (l.take i)+DB y:=by
 rw [List.take_add_one,h,SO];simp [Er]
theorem Vs (l:List Nd) (i:Nat):Er (l.take i)≤Er l:=by
 have:=SO (l.take i) (l.drop i)
 rw [List.take_append_drop] at this
 omega
theorem l4:∀ (n:Nat) (e:Nd) (l:Int),E1 e→DB e≤n→l≤1000000→Dv n e l=some (max 0 (min ((DB e:Nat):Int) l)):=by
 intro n
 induction n with
 | zero=>intro e l _ h;have:=Cm e;omega
 | succ n ih =>
   intro e l hok hn hl
   obtain ⟨_,hk,hks⟩:=GG hok
   have hp:=Cm e
   rw [Dv,Gh,KD]
   simp only [ID,D5,Sd,Cb]
   refine ⟨fun h=>by omega,fun h=>?_⟩
   refine GU (fun i x=>x=min (((1+Er (e.kids.take i):Nat)):Int) l) hk (by simp [Er];omega) (fun i y x hy hx=>?_) (fun x hx=>?_)
   · have hm:=List.mem_of_getElem? hy
     have h1:=Vq hy
     have h2:=Vs e.kids (i+1)
     have h3:=Ge hm
     simp only [Fy,Fe,D5,Sd,S9,Cb,GL,nX]
     refine ⟨fun h4=>?_,fun h4=>by omega⟩
     rw [Mj (by omega),ih y (l - x) (hks y hm) (by omega) (by omega),Cb,CT (by omega)]
     omega
   · rw [List.take_length] at hx
     rw [Cb];omega
theorem mV (e:Nd) (l:Int) (h:E1 e) (hl:0≤l∧l < 1000000):Gt e l=some (mb (((DB e:Nat):Int)≤l)):=by
 have hc:H4 e (l+1)=some (max 0 (min ((DB e:Nat):Int) (l+1))):=Ka (DB e) fun n hn=>l4 n e (l+1) h hn (by omega)
 rw [Gt,CT (by omega),hc,KD]
 simp only [ID,D5,Sd,Cb,S9,RT,LZ]
 omega
theorem gN:∀ (n:Nat) (e:Nd) (l:Int),E1 e→DB e≤n→-1000000≤l→l≤1000000→DO n e l=some (mb (((JM e:Nat):Int)≤l)):=by
 intro n
 induction n with
 | zero=>intro e l _ h;have:=Cm e;omega
 | succ n ih =>
   intro e l hok hn hl0 hl
   obtain ⟨_,hk,hks⟩:=GG hok
   have hp:=Js e
   rw [DO,G2,Fe,D5]
   by_cases h:l < 1
   · rw [Af h];refine N9 ?_;omega
   rw [Ac h,N1 (v:=false) (P:=fun _ y=>((JM y:Nat):Int)≤l - 1) hk (fun i y hy=>by
     have hm:=List.mem_of_getElem? hy
     have h3:=Ge hm
     simp only [Gg]
     rw [Mj (by omega),ih y (l - 1) (hks y hm) (by omega) (by omega) (by omega)]
     simp only [Option.bind_some,D5,eN]),Pp,RJ]
   refine j9 ?_
   have h4:(∀ k∈e.kids,((JM k:Nat):Int)≤l - 1)↔Vv e.kids≤(l - 1).toNat:=by
     rw [Ng]
     exact ⟨fun h k hk=>by have:=h k hk;omega,fun h k hk=>by have:=h k hk;omega⟩
   rw [h4]
   omega
end Mo
end Go.Proofs.YtnijkdknnmgoeaaGreat
namespace Go.Proofs.YtnijkdknnmgoeaaGreat
open AI Go
namespace Mo
set_option maxRecDepth 100000
set_option maxHeartbeats 4000000
theorem Wc {n:Nd} (h:E1 n):EU n=some (mb (((DB n:Nat):Int)≤2100∧((JM n:Nat):Int)≤100)):=by
 have hf:IP n 100=some (mb (((JM n:Nat):Int)≤100)):=Ka (DB n) fun q hq=>gN q n 100 h hq (by omega) (by omega)
 rw [EU,mV n 2100 h (by omega),hf]
 simp only [Option.bind_some,D5,YO]
mutual
def YX:Nd→Prop
 | ⟨_,_,_,_,_,_,_,tab,kids,_⟩=>tab.ps.length≤1000∧Xg kids
def Xg:List Nd→Prop
 | []=>True
 | k::ks=>YX k∧Xg ks
end
theorem Xm {l:List Nd}:Xg l↔∀ k∈l,YX k:=by
 induction l with
 | nil=>simp [Xg]
 | cons k l ih=>simp [Xg,ih]
theorem S6 (e:Nd):YX e↔e.tab.ps.length≤1000∧∀ k∈e.kids,YX k:=by cases e;rw [YX,Xm]
theorem fF {p:Prop} {a b:Ex} (ha:Lj a) (hb:Lj b):Lj (AU p a b):=by
 by_cases h:p
 · rw [Af h];exact ha
 · rw [Ac h];exact hb
theorem cJ (t:Tr) {n:Nd} (hn:n.tab.ps.length≤1000) {ks:List Ex} (hk:∀ k∈ks,Lj k):Lj (Xw t n ks):=by
 have h0:∀ (o m:Int) (u:ByteArray) (d:Int),Lj ⟨o,m,u,⟨d,[]⟩,ks⟩:=fun o m u d=>by
   rw [Lj,Jk];exact ⟨by simp,hk⟩
 have h1:∀ (o m:Int) (u:ByteArray) (d:Int),Lj ⟨o,m,u,⟨d,[]⟩,[]⟩:=fun o m u d=>by
   rw [Lj,Jk];exact ⟨by simp,fun k h=>by cases h⟩
 have h2:∀ (o m:Int) (u:ByteArray) (d o2 m2:Int) (u2:ByteArray) (d2:Int),Lj ⟨o,m,u,⟨d,[]⟩,[⟨o2,m2,u2,⟨d2,[]⟩,ks⟩]⟩:=fun o m u d o2 m2 u2 d2=>by
   rw [Lj,Jk]
   refine ⟨by simp,fun k h=>?_⟩
   rw [List.mem_singleton] at h
   subst h
   exact h0 _ _ _ _
 have h3:∀ (o m:Int) (u:ByteArray) (d:Int),Lj ⟨o,m,u,⟨d,n.tab.ps⟩,ks⟩:=fun o m u d=>by
   rw [Lj,Jk];exact ⟨hn,hk⟩
 unfold Xw qW kB
 repeat' apply fF
 all_goals first | exact h0 _ _ _ _ | exact h1 _ _ _ _ | exact h2 _ _ _ _ _ _ _ _ | exact h3 _ _ _ _
theorem fP (t:Tr):∀ (m:Nat) (e:Nd),DB e≤m→YX e→Lj (Ko t e):=by
 intro m
 induction m with
 | zero=>intro e h;have:=Cm e;omega
 | succ m ih =>
   intro e hm he
   obtain ⟨h1,h2⟩:=(S6 e).1 he
   rw [WE]
   refine cJ t h1 (fun k hk=>?_)
   obtain ⟨x,hx,rfl⟩:=List.mem_map.1 hk
   exact ih x (by have:=Ge hx;omega) (h2 x hx)
theorem dF:∀ (m:Nat) (e:Nd),DB e≤m→Mb e→YX e:=by
 intro m
 induction m with
 | zero=>intro e h;have:=Cm e;omega
 | succ m ih =>
   intro e hm he
   obtain ⟨hq,hks⟩:=(Ju e).1 he
   rw [S6]
   refine ⟨?_,fun k hk=>ih k (by have:=Ge hk;omega) (hks k hk)⟩
   unfold JR at hq
   have hb:∀ {f:Nd},DF e f→f.tab.ps.length≤1000→e.tab.ps.length≤1000:=fun h h2=>by rw [h.2.2.2.2.2.2.2];exact h2
   rcases hq with h | h | h | h | h | h | h | h
   · exact hb h.2.2.2.2.2.2 (by simp)
   · exact hb h.2.2.2 (by simp)
   · exact hb h.2.2.2 (by simp)
   · exact hb h.2.2.2 (by simp)
   · exact hb h.2.2 (by simp)
   · exact hb h.2.1 (by simp)
   · exact hb h.2.2.1 (by simp)
   · have:=h.2.2.1;unfold SB at this;omega
end Mo
end Go.Proofs.YtnijkdknnmgoeaaGreat
namespace Go.Proofs.YtnijkdknnmgoeaaGreat
open AI Go
namespace Mo
set_option maxRecDepth 100000
set_option maxHeartbeats 4000000
def Wo (s:List Dg×List Int×List Ex×Ex):Prop:=(∀ x∈s.2.2.1,JG x≤1000000∧Lj x)∧JG s.2.2.2≤1000000∧Lj s.2.2.2
theorem QS (t:Tr):∀ (l:List Nd) (s:List Dg×List Int×List Ex×Ex),(∀ e∈l,YX (e.kids.headD e)∧DB (e.kids.headD e)≤100000)→Wo s→Wo (l.foldl (Hj t) s)∧(l.foldl (Hj t) s).2.2.1.length≤s.2.2.1.length+l.length∧(l.foldl (Hj t) s).2.1.length≤s.2.1.length+Er l
 | [],s,_,h=>⟨h,Nat.le_refl _,Nat.le_refl _⟩
 | e::l,s,hl,h=>by
   obtain ⟨p1,p2⟩:=hl e (by simp)
   have hx:=Rk t (e.kids.headD e)
   have ho:=fP t _ (e.kids.headD e) (Nat.le_refl _) p1
   have hsz:=Cm e
   have hlen:=FI e.kids
   obtain ⟨h1,h2,h3⟩:=h
   have key:Wo (Hj t s e)∧(Hj t s e).2.2.1.length≤s.2.2.1.length+1∧(Hj t s e).2.1.length≤s.2.1.length+DB e:=by
     unfold Hj
     by_cases k7:e.kind=7
     · rw [Af k7]
       exact ⟨⟨h1,h2,h3⟩,by simp only;omega,by simp only [List.length_append,List.length_map];omega⟩
     rw [Ac k7]
     by_cases k6:e.kind=6
     · rw [Af k6]
       refine ⟨⟨fun x hx2=>?_,h2,h3⟩,by simp,by simp only;omega⟩
       simp only [List.mem_append,List.mem_singleton] at hx2
       rcases hx2 with hx2 | rfl
       · exact h1 x hx2
       · exact ⟨by omega,ho⟩
     · rw [Ac k6]
       exact ⟨⟨h1,by simp only;omega,ho⟩,by simp only;omega,by simp only;omega⟩
   obtain ⟨k1,k2,k3⟩:=key
   obtain ⟨q1,q2,q3⟩:=QS t l (Hj t s e) (fun b hb=>hl b (by simp [hb])) k1
   rw [List.foldl_cons]
   exact ⟨q1,by rw [List.length_cons];omega,by rw [Er];omega⟩
theorem gY (t:Tr) {it:Nd} (hz:DB it≤100000) (h:∀ e∈it.kids.tail,YX (e.kids.headD e)∧DB (e.kids.headD e)≤100000):aP (Wv t it):=by
 obtain ⟨⟨h1,h2,h3⟩,h4,h5⟩:=QS t it.kids.tail ([],[],[],⟨0,0,ByteArray.empty,⟨0,[]⟩,[]⟩) h ⟨fun x hx=>(by cases hx),(by simp [JG,FT]),(by simp [Lj,Ue])⟩
 have hsz:=Cm it
 have hl:=FI it.kids
 have ht:it.kids.tail.length≤it.kids.length∧Er it.kids.tail≤Er it.kids:=by
   cases it.kids with
   | nil=>exact ⟨Nat.le_refl _,Nat.le_refl _⟩
   | cons a l=>exact ⟨by simp,by rw [Er,List.tail_cons];omega⟩
 simp only [List.length_nil,Nat.zero_add] at h4 h5
 refine ⟨?_,?_,h1,h2,h3⟩
 · show (FG t it.kids.tail).2.2.1.length≤_
   unfold FG;omega
 · show (FG t it.kids.tail).2.1.length≤_
   unfold FG;omega
theorem S1 (t:Tr):∀ (l:List Nd) (s:List Dg×List Ar),(∀ it∈l,it.kind=4→aP (Wv t it))→(∀ a∈s.2,aP a)→(∀ a∈(l.foldl (b1 t) s).2,aP a)∧(l.foldl (b1 t) s).2.length≤s.2.length+l.length
 | [],s,_,h=>⟨h,Nat.le_refl _⟩
 | k::l,s,hl,h=>by
   have key:(∀ a∈(b1 t s k).2,aP a)∧(b1 t s k).2.length≤s.2.length+1:=by
     unfold b1
     by_cases k4:k.kind=4
     · rw [Af k4]
       refine ⟨fun a ha=>?_,by simp⟩
       simp only [List.mem_append,List.mem_singleton] at ha
       rcases ha with ha | rfl
       · exact h a ha
       · exact hl k (by simp) k4
     · rw [Ac k4];exact ⟨h,by omega⟩
   obtain ⟨q1,q2⟩:=S1 t l (b1 t s k) (fun it hi=>hl it (by simp [hi])) key.1
   rw [List.foldl_cons]
   exact ⟨q1,by rw [List.length_cons];omega⟩
theorem Wr:∀ (l:List Nd) (s:List Dc×Mm ByteArray Int×List Dc×Mm ByteArray Int),(l.foldl N4 s).1.length≤s.1.length+l.length∧(l.foldl N4 s).2.2.1.length≤s.2.2.1.length+l.length
 | [],s=>⟨Nat.le_refl _,Nat.le_refl _⟩
 | k::l,s=>by
   have key:(N4 s k).1.length≤s.1.length+1∧(N4 s k).2.2.1.length≤s.2.2.1.length+1:=by
     unfold N4
     by_cases k2:k.kind=2
     · rw [Af k2];exact ⟨by simp,by simp only;omega⟩
     rw [Ac k2]
     by_cases k3:k.kind=3
     · rw [Af k3];exact ⟨by simp only;omega,by simp⟩
     · rw [Ac k3];omega
   have:=Wr l (N4 s k)
   rw [List.foldl_cons,List.length_cons]
   omega
theorem TX {n:Nd} (h:(BJ n).2=[]):(BJ n).1.facts.length≤2000∧(BJ n).1.lines.length≤2000∧(BJ n).1.arts.length≤2000∧∀ a∈(BJ n).1.arts,aP a:=by
 obtain ⟨nk,nv,nc,nb,ne⟩:=Ni h
 rw [ne]
 obtain ⟨_,hit,hsz,_⟩:=Mx nv nk
 have he:=Cm n
 have hl:=FI n.kids
 obtain ⟨a1,a2⟩:=S1 (Gv n.kids) n.kids ([],[]) (fun it hi k4=>by
   have hiz:=G3 hi
   refine gY _ (by omega) (fun e he=>?_)
   obtain ⟨_,_,_,h,cs,hkids,_,_,_,_,hcl⟩:=(oU k4).1 (hit it hi)
   have hit2:=Cm it
   rw [hkids,Er] at hit2
   rw [hkids,List.tail_cons] at he
   have hez:=G3 he
   obtain ⟨_,c7,cn⟩:=hcl e he
   have hee:=Cm e
   have hex:0 < e.kids.length∧∀ k∈e.kids,Mb k:=by
     by_cases k7:e.kind=7
     · exact ⟨(c7 k7).1,fun k hk=>((c7 k7).2 k hk).1⟩
     · exact ⟨by have:=(cn k7).1;omega,(cn k7).2⟩
   cases hek:e.kids with
   | nil=>rw [hek] at hex;simp at hex
   | cons k l =>
     have hkm:k∈e.kids:=by rw [hek];simp
     have:=G3 hkm
     rw [List.headD_cons]
     exact ⟨dF _ k (Nat.le_refl _) (hex.2 k hkm),by omega⟩) (fun a ha=>by cases ha)
 obtain ⟨b1,b2⟩:=Wr n.kids ([],Mm.nil,[],Mm.nil)
 simp only [List.length_nil,Nat.zero_add] at a2 b1 b2
 refine ⟨?_,?_,?_,a1⟩
 · show (DK n.kids).1.length≤_;unfold DK;omega
 · show (DK n.kids).2.2.1.length≤_;unfold DK;omega
 · show (Hq (Gv n.kids) n.kids).2.length≤_;unfold Hq;omega
theorem Sv {n:Nd} (h:(BJ n).2=[]):Cs (BJ n).1 (BJ n).1=some true∧(BJ n).1.arts.length≤2000:=by
 obtain ⟨h1,h2,h3,h4⟩:=TX h
 exact ⟨Sk (by omega) (by omega) (by omega) h4,h3⟩
end Mo
end Go.Proofs.YtnijkdknnmgoeaaGreat
namespace Go.Proofs.YtnijkdknnmgoeaaGreat
open AI
def Ad (s:List UInt8):AV:=.sc (.string ⟨s.toArray⟩)
def dO (n:Nat):Bool:=(match Nat.ble 97 n with | true=>Nat.ble n 122 | false=>false)
def cR (n:Nat):Bool:=(match Nat.ble 65 n with | true=>Nat.ble n 90 | false=>false)
def gI (n:Nat):Bool:=(match Nat.ble 48 n with | true=>Nat.ble n 57 | false=>false)
def OC (n:Nat):Bool:=(match dO n with | true=>true | false=>(match cR n with | true=>true | false=>(match gI n with | true=>true | false=>Nat.beq n 95)))
def Ww (n:Nat):Bool:=(match Nat.beq n 32 with | true=>true | false=>(match Nat.beq n 9 with | true=>true | false=>(match Nat.beq n 10 with | true=>true | false=>Nat.beq n 13)))
def aQ (lo up di wo wh:Nat) (f n:Nat) (s:AS):Option (CR×AS) :=
 match Nat.ble n 255 with
 | false=>none
 | true=>match Nat.beq f wo with
   | true=>some (.ret (.sc (.bool (OC n))),s)
   | false=>match Nat.beq f lo with
     | true=>some (.ret (.sc (.bool (dO n))),s)
     | false=>match Nat.beq f up with
       | true=>some (.ret (.sc (.bool (cR n))),s)
       | false=>match Nat.beq f di with
         | true=>some (.ret (.sc (.bool (gI n))),s)
         | false=>match Nat.beq f wh with
           | true=>some (.ret (.sc (.bool (Ww n))),s)
           | false=>none
def dZ (lo up di wo wh:Nat) (f:Nat) (s:AS):List AV→Option (CR×AS)
 | [.sc (.int .u8 (.ofNat n))]=>aQ lo up di wo wh f n s
 | _=>none
namespace Hd
def H:Ii:=fun _ _=>none
def X0:L1:=fun _ _ _=>none
theorem iI:P7 Tryz.prog G (XP X0) H:=⟨mixed,(fun _ _ _ _ _ h=>by cases h),(fun _ _ _ _ _ h=>by cases h)⟩
def Kw (f:Nat) (p:Nat→Bool) (n:Nat):BC:=⟨f,[.sc (.int .u8 (.ofNat n))],none,.sc (.bool (p n))⟩
noncomputable def HK (m f:Nat) (p:Nat→Bool) (k:Nat):Bool:=Nat.rec (motive:=fun _=>Bool) true (fun n ih=>Bool.rec (motive:=fun _=>Bool) false ih (MS (Kw f p n) (bY Tryz.prog G X0 H m (GO (Kw f p n))))) k
theorem Wf {m f:Nat} {p:Nat→Bool} {k:Nat} (h:HK m f p k=true):∀ n,n < k→MS (Kw f p n) (bY Tryz.prog G X0 H m (GO (Kw f p n)))=true:=by
 induction k with
 | zero=>intro n hn;omega
 | succ k ih =>
   intro n hn
   have hk:Bool.rec (motive:=fun _=>Bool) false (HK m f p k) (MS (Kw f p k) (bY Tryz.prog G X0 H m (GO (Kw f p k))))=true:=h
   cases hr:MS (Kw f p k) (bY Tryz.prog G X0 H m (GO (Kw f p k))) with
   | false=>rw [hr] at hk;cases hk
   | true =>
     rw [hr] at hk
     by_cases e:n=k
     · subst e;exact hr
     · exact ih hk n (by omega)
theorem KZ {m f:Nat} {p:Nat→Bool} (h:HK m f p 256=true) (n:Nat) (hn:n < 256) (s:AS):Sound Tryz.prog G (.call f [.sc (.int .u8 (.ofNat n))] s (.ret (.sc (.bool (p n)))) s) :=
 Xj (e:=Kw f p n) iI Ab rfl (Wf h n hn) s
theorem jG:HK 1000 141 dO 256=true:=by kernel_rfl
theorem iO:HK 1000 148 cR 256=true:=by kernel_rfl
theorem iH:HK 1000 143 gI 256=true:=by kernel_rfl
theorem Y8:HK 1000 202 OC 256=true:=by kernel_rfl
theorem Wp:HK 1000 174 Ww 256=true:=by kernel_rfl
def X (l:List BC):L1:=fun f args s=>match dZ 141 148 143 202 174 f s args with
 | some r=>some r
 | none=>find f args s l
theorem eC {f:Nat} {args:List AV} {s s':AS} {r:CR} (h:dZ 141 148 143 202 174 f s args=some (r,s')):Sound Tryz.prog G (.call f args s r s'):=by
 unfold dZ at h
 split at h
 · rename_i n
   unfold aQ at h
   split at h
   · cases h
   · rename_i hn
     have hn':n < 256:=Nat.lt_succ_of_le (Nat.le_of_ble_eq_true hn)
     split at h
     · rename_i hf;cases h;rw [beq_true hf];exact KZ Y8 n hn' _
     · split at h
       · rename_i hf;cases h;rw [beq_true hf];exact KZ jG n hn' _
       · split at h
         · rename_i hf;cases h;rw [beq_true hf];exact KZ iO n hn' _
         · split at h
           · rename_i hf;cases h;rw [beq_true hf];exact KZ iH n hn' _
           · split at h
             · rename_i hf;cases h;rw [beq_true hf];exact KZ Wp n hn' _
             · cases h
 · cases h
theorem nA {l:List BC} (hl:∀ e∈l,At Tryz.prog G e):P7 Tryz.prog G (XP (X l)) H:=by
 refine ⟨mixed,fun f args s r s' h=>?_,fun _ _ _ _ _ h=>by cases h⟩
 have h':X l f args s=some (r,s'):=h
 unfold X at h'
 split at h'
 · rename_i q hq;cases h';exact eC hq
 · exact Yh hl h'
theorem none:∀ e∈([]:List BC),At Tryz.prog G e:=fun e he=>by cases he
theorem entry {e:BC} {l:List BC} {m:Nat} (hl:∀ e∈l,At Tryz.prog G e) (hp:MP e=true) (h:MS e (bY Tryz.prog G (X l) H m (GO e))=true):At Tryz.prog G e:=Xj (nA hl) Ab hp h
end Hd
end Go.Proofs.YtnijkdknnmgoeaaGreat
namespace Go.Proofs.YtnijkdknnmgoeaaGreat
open AI
set_option maxRecDepth 100000
set_option maxHeartbeats 4000000
def k0:AV:=Ad [102,97,99,116,32,97,32,58,32,110,117,109,98,101,114,59,32,108,105,110,101,32,108,32,58,32,69,85,82,32,101,97,114,110,59,32,97,114,116,105,99,108,101,32,49,32,102,111,114,32,108,32,114,97,110,107,32,48,32,102,114,111,109,32,50,48,50,52,45,48,49,45,48,49,32,107,110,111,119,110,32,50,48,50,52,45,48,49,45,48,49,32,123,32,119,104,101,110,32,97,32,33,61,32,51,59,32,97,109,111,117,110,116,32,69,85,82,32,49,46,48,48,32,42,32,97,59,32,125,32,97,114,116,105,99,108,101,32,50,32,102,111,114,32,108,32,114,97,110,107,32,48,32,102,114,111,109,32,50,48,50,52,45,48,49,45,48,49,32,116,111,32,50,48,50,53,45,48,49,45,48,49,32,107,110,111,119,110,32,50,48,50,52,45,48,49,45,48,49,32,123,32,119,104,101,110,32,119,101,101,107,100,97,121,32,61,61,32,49,59,32,119,104,101,110,32,97,32,33,61,32,51,59,32,97,109,111,117,110,116,32,97,114,116,32,51,59,32,125,32,97,114,116,105,99,108,101,32,51,32,102,111,114,32,108,32,114,97,110,107,32,48,32,102,114,111,109,32,50,48,50,52,45,48,49,45,48,49,32,107,110,111,119,110,32,50,48,50,52,45,48,50,45,48,49,32,123,32,117,110,108,101,115,115,32,49,59,32,97,109,111,117,110,116,32,69,85,82,32,48,46,48,48,59,32,125]
def k1:AV:=Ad [50,48,50,52,45,48,49,45,48,49]
def k2:AV:=Ad [119,101,101,107,100,97,121]
def k3:AV:=Ad [97,114,116,105,99,108,101]
def k4:AV:=Ad [50,48,50,53,45,48,49,45,48,49]
def k5:AV:=Ad [50,48,50,52,45,48,50,45,48,49]
def k6:AV:=.sl .lost 81 [(.sc (.int .i64 (.ofNat 1))),(Ad [102,97,99,116]),(.sc (.int .i64 (.ofNat 0))),(.sc (.int .i64 (.ofNat 1))),(Ad [97]),(.sc (.int .i64 (.ofNat 5))),(.sc (.int .i64 (.ofNat 6))),(Ad [58]),(.sc (.int .i64 (.ofNat 7))),(.sc (.int .i64 (.ofNat 1))),(Ad [110,117,109,98,101,114]),(.sc (.int .i64 (.ofNat 9))),(.sc (.int .i64 (.ofNat 6))),(Ad [59]),(.sc (.int .i64 (.ofNat 15))),(.sc (.int .i64 (.ofNat 1))),(Ad [108,105,110,101]),(.sc (.int .i64 (.ofNat 17))),(.sc (.int .i64 (.ofNat 1))),(Ad [108]),(.sc (.int .i64 (.ofNat 22))),(.sc (.int .i64 (.ofNat 6))),(Ad [58]),(.sc (.int .i64 (.ofNat 24))),(.sc (.int .i64 (.ofNat 2))),(Ad [69,85,82]),(.sc (.int .i64 (.ofNat 26))),(.sc (.int .i64 (.ofNat 1))),(Ad [101,97,114,110]),(.sc (.int .i64 (.ofNat 30))),(.sc (.int .i64 (.ofNat 6))),(Ad [59]),(.sc (.int .i64 (.ofNat 34))),(.sc (.int .i64 (.ofNat 1))),k3,(.sc (.int .i64 (.ofNat 36))),(.sc (.int .i64 (.ofNat 3))),(Ad [49]),(.sc (.int .i64 (.ofNat 44))),(.sc (.int .i64 (.ofNat 1))),(Ad [102,111,114]),(.sc (.int .i64 (.ofNat 46))),(.sc (.int .i64 (.ofNat 1))),(Ad [108]),(.sc (.int .i64 (.ofNat 50))),(.sc (.int .i64 (.ofNat 1))),(Ad [114,97,110,107]),(.sc (.int .i64 (.ofNat 52))),(.sc (.int .i64 (.ofNat 3))),(Ad [48]),(.sc (.int .i64 (.ofNat 57))),(.sc (.int .i64 (.ofNat 1))),(Ad [102,114,111,109]),(.sc (.int .i64 (.ofNat 59))),(.sc (.int .i64 (.ofNat 5))),k1,(.sc (.int .i64 (.ofNat 64))),(.sc (.int .i64 (.ofNat 1))),(Ad [107,110,111,119,110]),(.sc (.int .i64 (.ofNat 75))),(.sc (.int .i64 (.ofNat 5))),k1,(.sc (.int .i64 (.ofNat 81))),(.sc (.int .i64 (.ofNat 6))),(Ad [123]),(.sc (.int .i64 (.ofNat 92))),(.sc (.int .i64 (.ofNat 1))),(Ad [119,104,101,110]),(.sc (.int .i64 (.ofNat 94))),(.sc (.int .i64 (.ofNat 1))),(Ad [97]),(.sc (.int .i64 (.ofNat 99))),(.sc (.int .i64 (.ofNat 6))),(Ad [33,61]),(.sc (.int .i64 (.ofNat 101))),(.sc (.int .i64 (.ofNat 3))),(Ad [51]),(.sc (.int .i64 (.ofNat 104))),(.sc (.int .i64 (.ofNat 6))),(Ad [59]),(.sc (.int .i64 (.ofNat 105))),(.sc (.int .i64 (.ofNat 1))),(Ad [97,109,111,117,110,116]),(.sc (.int .i64 (.ofNat 107))),(.sc (.int .i64 (.ofNat 2))),(Ad [69,85,82]),(.sc (.int .i64 (.ofNat 114))),(.sc (.int .i64 (.ofNat 4))),(Ad [49,46,48,48]),(.sc (.int .i64 (.ofNat 118))),(.sc (.int .i64 (.ofNat 6))),(Ad [42]),(.sc (.int .i64 (.ofNat 123))),(.sc (.int .i64 (.ofNat 1))),(Ad [97]),(.sc (.int .i64 (.ofNat 125))),(.sc (.int .i64 (.ofNat 6))),(Ad [59]),(.sc (.int .i64 (.ofNat 126))),(.sc (.int .i64 (.ofNat 6))),(Ad [125]),(.sc (.int .i64 (.ofNat 128))),(.sc (.int .i64 (.ofNat 1))),k3,(.sc (.int .i64 (.ofNat 130))),(.sc (.int .i64 (.ofNat 3))),(Ad [50]),(.sc (.int .i64 (.ofNat 138))),(.sc (.int .i64 (.ofNat 1))),(Ad [102,111,114]),(.sc (.int .i64 (.ofNat 140))),(.sc (.int .i64 (.ofNat 1))),(Ad [108]),(.sc (.int .i64 (.ofNat 144))),(.sc (.int .i64 (.ofNat 1))),(Ad [114,97,110,107]),(.sc (.int .i64 (.ofNat 146))),(.sc (.int .i64 (.ofNat 3))),(Ad [48]),(.sc (.int .i64 (.ofNat 151))),(.sc (.int .i64 (.ofNat 1))),(Ad [102,114,111,109]),(.sc (.int .i64 (.ofNat 153))),(.sc (.int .i64 (.ofNat 5))),k1,(.sc (.int .i64 (.ofNat 158))),(.sc (.int .i64 (.ofNat 1))),(Ad [116,111]),(.sc (.int .i64 (.ofNat 169))),(.sc (.int .i64 (.ofNat 5))),k4,(.sc (.int .i64 (.ofNat 172))),(.sc (.int .i64 (.ofNat 1))),(Ad [107,110,111,119,110]),(.sc (.int .i64 (.ofNat 183))),(.sc (.int .i64 (.ofNat 5))),k1,(.sc (.int .i64 (.ofNat 189))),(.sc (.int .i64 (.ofNat 6))),(Ad [123]),(.sc (.int .i64 (.ofNat 200))),(.sc (.int .i64 (.ofNat 1))),(Ad [119,104,101,110]),(.sc (.int .i64 (.ofNat 202))),(.sc (.int .i64 (.ofNat 1))),k2,(.sc (.int .i64 (.ofNat 207))),(.sc (.int .i64 (.ofNat 6))),(Ad [61,61]),(.sc (.int .i64 (.ofNat 215))),(.sc (.int .i64 (.ofNat 3))),(Ad [49]),(.sc (.int .i64 (.ofNat 218))),(.sc (.int .i64 (.ofNat 6))),(Ad [59]),(.sc (.int .i64 (.ofNat 219))),(.sc (.int .i64 (.ofNat 1))),(Ad [119,104,101,110]),(.sc (.int .i64 (.ofNat 221))),(.sc (.int .i64 (.ofNat 1))),(Ad [97]),(.sc (.int .i64 (.ofNat 226))),(.sc (.int .i64 (.ofNat 6))),(Ad [33,61]),(.sc (.int .i64 (.ofNat 228))),(.sc (.int .i64 (.ofNat 3))),(Ad [51]),(.sc (.int .i64 (.ofNat 231))),(.sc (.int .i64 (.ofNat 6))),(Ad [59]),(.sc (.int .i64 (.ofNat 232))),(.sc (.int .i64 (.ofNat 1))),(Ad [97,109,111,117,110,116]),(.sc (.int .i64 (.ofNat 234))),(.sc (.int .i64 (.ofNat 1))),(Ad [97,114,116]),(.sc (.int .i64 (.ofNat 241))),(.sc (.int .i64 (.ofNat 3))),(Ad [51]),(.sc (.int .i64 (.ofNat 245))),(.sc (.int .i64 (.ofNat 6))),(Ad [59]),(.sc (.int .i64 (.ofNat 246))),(.sc (.int .i64 (.ofNat 6))),(Ad [125]),(.sc (.int .i64 (.ofNat 248))),(.sc (.int .i64 (.ofNat 1))),k3,(.sc (.int .i64 (.ofNat 250))),(.sc (.int .i64 (.ofNat 3))),(Ad [51]),(.sc (.int .i64 (.ofNat 258))),(.sc (.int .i64 (.ofNat 1))),(Ad [102,111,114]),(.sc (.int .i64 (.ofNat 260))),(.sc (.int .i64 (.ofNat 1))),(Ad [108]),(.sc (.int .i64 (.ofNat 264))),(.sc (.int .i64 (.ofNat 1))),(Ad [114,97,110,107]),(.sc (.int .i64 (.ofNat 266))),(.sc (.int .i64 (.ofNat 3))),(Ad [48]),(.sc (.int .i64 (.ofNat 271))),(.sc (.int .i64 (.ofNat 1))),(Ad [102,114,111,109]),(.sc (.int .i64 (.ofNat 273))),(.sc (.int .i64 (.ofNat 5))),k1,(.sc (.int .i64 (.ofNat 278))),(.sc (.int .i64 (.ofNat 1))),(Ad [107,110,111,119,110]),(.sc (.int .i64 (.ofNat 289))),(.sc (.int .i64 (.ofNat 5))),k5,(.sc (.int .i64 (.ofNat 295))),(.sc (.int .i64 (.ofNat 6))),(Ad [123]),(.sc (.int .i64 (.ofNat 306))),(.sc (.int .i64 (.ofNat 1))),(Ad [117,110,108,101,115,115]),(.sc (.int .i64 (.ofNat 308))),(.sc (.int .i64 (.ofNat 3))),(Ad [49]),(.sc (.int .i64 (.ofNat 315))),(.sc (.int .i64 (.ofNat 6))),(Ad [59]),(.sc (.int .i64 (.ofNat 316))),(.sc (.int .i64 (.ofNat 1))),(Ad [97,109,111,117,110,116]),(.sc (.int .i64 (.ofNat 318))),(.sc (.int .i64 (.ofNat 2))),(Ad [69,85,82]),(.sc (.int .i64 (.ofNat 325))),(.sc (.int .i64 (.ofNat 4))),(Ad [48,46,48,48]),(.sc (.int .i64 (.ofNat 329))),(.sc (.int .i64 (.ofNat 6))),(Ad [59]),(.sc (.int .i64 (.ofNat 333))),(.sc (.int .i64 (.ofNat 6))),(Ad [125]),(.sc (.int .i64 (.ofNat 335)))]
def e0:BC:=⟨152,[k0,(.sc (.int .i64 (.ofNat 0)))],none,(.Bh [(.agg [(.sc (.int .i64 (.ofNat 1))),(Ad [102,97,99,116]),(.sc (.int .i64 (.ofNat 0)))]),(.sc (.bool true))])⟩
theorem mW:At Tryz.prog Hd.G e0:=Hd.entry (l:=[]) (m:=1000000) Hd.none (by kernel_rfl) (by kernel_rfl)
def e1:BC:=⟨152,[k0,(.sc (.int .i64 (.ofNat 15)))],none,(.Bh [(.agg [(.sc (.int .i64 (.ofNat 6))),(Ad [59]),(.sc (.int .i64 (.ofNat 15)))]),(.sc (.bool true))])⟩
theorem lR:At Tryz.prog Hd.G e1:=Hd.entry (l:=[]) (m:=1000000) Hd.none (by kernel_rfl) (by kernel_rfl)
def e2:BC:=⟨152,[k0,(.sc (.int .i64 (.ofNat 26)))],none,(.Bh [(.agg [(.sc (.int .i64 (.ofNat 2))),(Ad [69,85,82]),(.sc (.int .i64 (.ofNat 26)))]),(.sc (.bool true))])⟩
theorem oO:At Tryz.prog Hd.G e2:=Hd.entry (l:=[]) (m:=1000000) Hd.none (by kernel_rfl) (by kernel_rfl)
def e3:BC:=⟨152,[k0,(.sc (.int .i64 (.ofNat 44)))],none,(.Bh [(.agg [(.sc (.int .i64 (.ofNat 3))),(Ad [49]),(.sc (.int .i64 (.ofNat 44)))]),(.sc (.bool true))])⟩
theorem mY:At Tryz.prog Hd.G e3:=Hd.entry (l:=[]) (m:=1000000) Hd.none (by kernel_rfl) (by kernel_rfl)
def e4:BC:=⟨152,[k0,(.sc (.int .i64 (.ofNat 57)))],none,(.Bh [(.agg [(.sc (.int .i64 (.ofNat 3))),(Ad [48]),(.sc (.int .i64 (.ofNat 57)))]),(.sc (.bool true))])⟩
theorem mM:At Tryz.prog Hd.G e4:=Hd.entry (l:=[]) (m:=1000000) Hd.none (by kernel_rfl) (by kernel_rfl)
def e5:BC:=⟨152,[k0,(.sc (.int .i64 (.ofNat 81)))],none,(.Bh [(.agg [(.sc (.int .i64 (.ofNat 5))),k1,(.sc (.int .i64 (.ofNat 81)))]),(.sc (.bool true))])⟩
theorem pG:At Tryz.prog Hd.G e5:=Hd.entry (l:=[]) (m:=1000000) Hd.none (by kernel_rfl) (by kernel_rfl)
def e6:BC:=⟨152,[k0,(.sc (.int .i64 (.ofNat 101)))],none,(.Bh [(.agg [(.sc (.int .i64 (.ofNat 6))),(Ad [33,61]),(.sc (.int .i64 (.ofNat 101)))]),(.sc (.bool true))])⟩
theorem kS:At Tryz.prog Hd.G e6:=Hd.entry (l:=[]) (m:=1000000) Hd.none (by kernel_rfl) (by kernel_rfl)
def e7:BC:=⟨152,[k0,(.sc (.int .i64 (.ofNat 114)))],none,(.Bh [(.agg [(.sc (.int .i64 (.ofNat 2))),(Ad [69,85,82]),(.sc (.int .i64 (.ofNat 114)))]),(.sc (.bool true))])⟩
theorem kQ:At Tryz.prog Hd.G e7:=Hd.entry (l:=[]) (m:=1000000) Hd.none (by kernel_rfl) (by kernel_rfl)
def e8:BC:=⟨152,[k0,(.sc (.int .i64 (.ofNat 126)))],none,(.Bh [(.agg [(.sc (.int .i64 (.ofNat 6))),(Ad [59]),(.sc (.int .i64 (.ofNat 126)))]),(.sc (.bool true))])⟩
theorem pC:At Tryz.prog Hd.G e8:=Hd.entry (l:=[]) (m:=1000000) Hd.none (by kernel_rfl) (by kernel_rfl)
def e9:BC:=⟨152,[k0,(.sc (.int .i64 (.ofNat 140)))],none,(.Bh [(.agg [(.sc (.int .i64 (.ofNat 1))),(Ad [102,111,114]),(.sc (.int .i64 (.ofNat 140)))]),(.sc (.bool true))])⟩
theorem pJ:At Tryz.prog Hd.G e9:=Hd.entry (l:=[]) (m:=1000000) Hd.none (by kernel_rfl) (by kernel_rfl)
def pY:BC:=⟨152,[k0,(.sc (.int .i64 (.ofNat 153)))],none,(.Bh [(.agg [(.sc (.int .i64 (.ofNat 1))),(Ad [102,114,111,109]),(.sc (.int .i64 (.ofNat 153)))]),(.sc (.bool true))])⟩
theorem jB:At Tryz.prog Hd.G pY:=Hd.entry (l:=[]) (m:=1000000) Hd.none (by kernel_rfl) (by kernel_rfl)
def vQ:BC:=⟨152,[k0,(.sc (.int .i64 (.ofNat 183)))],none,(.Bh [(.agg [(.sc (.int .i64 (.ofNat 1))),(Ad [107,110,111,119,110]),(.sc (.int .i64 (.ofNat 183)))]),(.sc (.bool true))])⟩
theorem jI:At Tryz.prog Hd.G vQ:=Hd.entry (l:=[]) (m:=1000000) Hd.none (by kernel_rfl) (by kernel_rfl)
def uX:BC:=⟨152,[k0,(.sc (.int .i64 (.ofNat 207)))],none,(.Bh [(.agg [(.sc (.int .i64 (.ofNat 1))),k2,(.sc (.int .i64 (.ofNat 207)))]),(.sc (.bool true))])⟩
theorem iQ:At Tryz.prog Hd.G uX:=Hd.entry (l:=[]) (m:=1000000) Hd.none (by kernel_rfl) (by kernel_rfl)
def wG:BC:=⟨152,[k0,(.sc (.int .i64 (.ofNat 221)))],none,(.Bh [(.agg [(.sc (.int .i64 (.ofNat 1))),(Ad [119,104,101,110]),(.sc (.int .i64 (.ofNat 221)))]),(.sc (.bool true))])⟩
theorem cY:At Tryz.prog Hd.G wG:=Hd.entry (l:=[]) (m:=1000000) Hd.none (by kernel_rfl) (by kernel_rfl)
def vP:BC:=⟨152,[k0,(.sc (.int .i64 (.ofNat 232)))],none,(.Bh [(.agg [(.sc (.int .i64 (.ofNat 6))),(Ad [59]),(.sc (.int .i64 (.ofNat 232)))]),(.sc (.bool true))])⟩
theorem jO:At Tryz.prog Hd.G vP:=Hd.entry (l:=[]) (m:=1000000) Hd.none (by kernel_rfl) (by kernel_rfl)
def tY:BC:=⟨152,[k0,(.sc (.int .i64 (.ofNat 246)))],none,(.Bh [(.agg [(.sc (.int .i64 (.ofNat 6))),(Ad [59]),(.sc (.int .i64 (.ofNat 246)))]),(.sc (.bool true))])⟩
theorem iX:At Tryz.prog Hd.G tY:=Hd.entry (l:=[]) (m:=1000000) Hd.none (by kernel_rfl) (by kernel_rfl)
def w7:BC:=⟨152,[k0,(.sc (.int .i64 (.ofNat 260)))],none,(.Bh [(.agg [(.sc (.int .i64 (.ofNat 1))),(Ad [102,111,114]),(.sc (.int .i64 (.ofNat 260)))]),(.sc (.bool true))])⟩
theorem gR:At Tryz.prog Hd.G w7:=Hd.entry (l:=[]) (m:=1000000) Hd.none (by kernel_rfl) (by kernel_rfl)
def uC:BC:=⟨152,[k0,(.sc (.int .i64 (.ofNat 273)))],none,(.Bh [(.agg [(.sc (.int .i64 (.ofNat 1))),(Ad [102,114,111,109]),(.sc (.int .i64 (.ofNat 273)))]),(.sc (.bool true))])⟩
theorem eK:At Tryz.prog Hd.G uC:=Hd.entry (l:=[]) (m:=1000000) Hd.none (by kernel_rfl) (by kernel_rfl)
def v5:BC:=⟨152,[k0,(.sc (.int .i64 (.ofNat 306)))],none,(.Bh [(.agg [(.sc (.int .i64 (.ofNat 6))),(Ad [123]),(.sc (.int .i64 (.ofNat 306)))]),(.sc (.bool true))])⟩
theorem jW:At Tryz.prog Hd.G v5:=Hd.entry (l:=[]) (m:=1000000) Hd.none (by kernel_rfl) (by kernel_rfl)
def uY:BC:=⟨152,[k0,(.sc (.int .i64 (.ofNat 318)))],none,(.Bh [(.agg [(.sc (.int .i64 (.ofNat 1))),(Ad [97,109,111,117,110,116]),(.sc (.int .i64 (.ofNat 318)))]),(.sc (.bool true))])⟩
theorem gH:At Tryz.prog Hd.G uY:=Hd.entry (l:=[]) (m:=1000000) Hd.none (by kernel_rfl) (by kernel_rfl)
def uJ:BC:=⟨152,[k0,(.sc (.int .i64 (.ofNat 335)))],none,(.Bh [(.agg [(.sc (.int .i64 (.ofNat 6))),(Ad [125]),(.sc (.int .i64 (.ofNat 335)))]),(.sc (.bool true))])⟩
theorem gF:At Tryz.prog Hd.G uJ:=Hd.entry (l:=[]) (m:=1000000) Hd.none (by kernel_rfl) (by kernel_rfl)
def wN:BC:=⟨152,[k0,(.sc (.int .i64 (.ofNat 5)))],none,(.Bh [(.agg [(.sc (.int .i64 (.ofNat 1))),(Ad [97]),(.sc (.int .i64 (.ofNat 5)))]),(.sc (.bool true))])⟩
theorem eV:At Tryz.prog Hd.G wN:=Hd.entry (l:=[]) (m:=1000000) Hd.none (by kernel_rfl) (by kernel_rfl)
def wY:BC:=⟨152,[k0,(.sc (.int .i64 (.ofNat 17)))],none,(.Bh [(.agg [(.sc (.int .i64 (.ofNat 1))),(Ad [108,105,110,101]),(.sc (.int .i64 (.ofNat 17)))]),(.sc (.bool true))])⟩
theorem jK:At Tryz.prog Hd.G wY:=Hd.entry (l:=[]) (m:=1000000) Hd.none (by kernel_rfl) (by kernel_rfl)
def uF:BC:=⟨152,[k0,(.sc (.int .i64 (.ofNat 30)))],none,(.Bh [(.agg [(.sc (.int .i64 (.ofNat 1))),(Ad [101,97,114,110]),(.sc (.int .i64 (.ofNat 30)))]),(.sc (.bool true))])⟩
theorem fH:At Tryz.prog Hd.G uF:=Hd.entry (l:=[]) (m:=1000000) Hd.none (by kernel_rfl) (by kernel_rfl)
def wM:BC:=⟨152,[k0,(.sc (.int .i64 (.ofNat 46)))],none,(.Bh [(.agg [(.sc (.int .i64 (.ofNat 1))),(Ad [102,111,114]),(.sc (.int .i64 (.ofNat 46)))]),(.sc (.bool true))])⟩
theorem fS:At Tryz.prog Hd.G wM:=Hd.entry (l:=[]) (m:=1000000) Hd.none (by kernel_rfl) (by kernel_rfl)
def wS:BC:=⟨152,[k0,(.sc (.int .i64 (.ofNat 59)))],none,(.Bh [(.agg [(.sc (.int .i64 (.ofNat 1))),(Ad [102,114,111,109]),(.sc (.int .i64 (.ofNat 59)))]),(.sc (.bool true))])⟩
theorem gZ:At Tryz.prog Hd.G wS:=Hd.entry (l:=[]) (m:=1000000) Hd.none (by kernel_rfl) (by kernel_rfl)
def uV:BC:=⟨152,[k0,(.sc (.int .i64 (.ofNat 92)))],none,(.Bh [(.agg [(.sc (.int .i64 (.ofNat 6))),(Ad [123]),(.sc (.int .i64 (.ofNat 92)))]),(.sc (.bool true))])⟩
theorem dH:At Tryz.prog Hd.G uV:=Hd.entry (l:=[]) (m:=1000000) Hd.none (by kernel_rfl) (by kernel_rfl)
def wA:BC:=⟨152,[k0,(.sc (.int .i64 (.ofNat 104)))],none,(.Bh [(.agg [(.sc (.int .i64 (.ofNat 3))),(Ad [51]),(.sc (.int .i64 (.ofNat 104)))]),(.sc (.bool true))])⟩
theorem iJ:At Tryz.prog Hd.G wA:=Hd.entry (l:=[]) (m:=1000000) Hd.none (by kernel_rfl) (by kernel_rfl)
def vA:BC:=⟨152,[k0,(.sc (.int .i64 (.ofNat 118)))],none,(.Bh [(.agg [(.sc (.int .i64 (.ofNat 4))),(Ad [49,46,48,48]),(.sc (.int .i64 (.ofNat 118)))]),(.sc (.bool true))])⟩
theorem gV:At Tryz.prog Hd.G vA:=Hd.entry (l:=[]) (m:=1000000) Hd.none (by kernel_rfl) (by kernel_rfl)
def uU:BC:=⟨152,[k0,(.sc (.int .i64 (.ofNat 128)))],none,(.Bh [(.agg [(.sc (.int .i64 (.ofNat 6))),(Ad [125]),(.sc (.int .i64 (.ofNat 128)))]),(.sc (.bool true))])⟩
theorem gG:At Tryz.prog Hd.G uU:=Hd.entry (l:=[]) (m:=1000000) Hd.none (by kernel_rfl) (by kernel_rfl)
def uM:BC:=⟨152,[k0,(.sc (.int .i64 (.ofNat 144)))],none,(.Bh [(.agg [(.sc (.int .i64 (.ofNat 1))),(Ad [108]),(.sc (.int .i64 (.ofNat 144)))]),(.sc (.bool true))])⟩
theorem dP:At Tryz.prog Hd.G uM:=Hd.entry (l:=[]) (m:=1000000) Hd.none (by kernel_rfl) (by kernel_rfl)
def wZ:BC:=⟨152,[k0,(.sc (.int .i64 (.ofNat 158)))],none,(.Bh [(.agg [(.sc (.int .i64 (.ofNat 5))),k1,(.sc (.int .i64 (.ofNat 158)))]),(.sc (.bool true))])⟩
theorem eD:At Tryz.prog Hd.G wZ:=Hd.entry (l:=[]) (m:=1000000) Hd.none (by kernel_rfl) (by kernel_rfl)
def wH:BC:=⟨152,[k0,(.sc (.int .i64 (.ofNat 189)))],none,(.Bh [(.agg [(.sc (.int .i64 (.ofNat 5))),k1,(.sc (.int .i64 (.ofNat 189)))]),(.sc (.bool true))])⟩
theorem cM:At Tryz.prog Hd.G wH:=Hd.entry (l:=[]) (m:=1000000) Hd.none (by kernel_rfl) (by kernel_rfl)
def u7:BC:=⟨152,[k0,(.sc (.int .i64 (.ofNat 215)))],none,(.Bh [(.agg [(.sc (.int .i64 (.ofNat 6))),(Ad [61,61]),(.sc (.int .i64 (.ofNat 215)))]),(.sc (.bool true))])⟩
theorem dD:At Tryz.prog Hd.G u7:=Hd.entry (l:=[]) (m:=1000000) Hd.none (by kernel_rfl) (by kernel_rfl)
def uQ:BC:=⟨152,[k0,(.sc (.int .i64 (.ofNat 226)))],none,(.Bh [(.agg [(.sc (.int .i64 (.ofNat 1))),(Ad [97]),(.sc (.int .i64 (.ofNat 226)))]),(.sc (.bool true))])⟩
theorem jP:At Tryz.prog Hd.G uQ:=Hd.entry (l:=[]) (m:=1000000) Hd.none (by kernel_rfl) (by kernel_rfl)
def uI:BC:=⟨152,[k0,(.sc (.int .i64 (.ofNat 234)))],none,(.Bh [(.agg [(.sc (.int .i64 (.ofNat 1))),(Ad [97,109,111,117,110,116]),(.sc (.int .i64 (.ofNat 234)))]),(.sc (.bool true))])⟩
theorem cI:At Tryz.prog Hd.G uI:=Hd.entry (l:=[]) (m:=1000000) Hd.none (by kernel_rfl) (by kernel_rfl)
def wR:BC:=⟨152,[k0,(.sc (.int .i64 (.ofNat 248)))],none,(.Bh [(.agg [(.sc (.int .i64 (.ofNat 6))),(Ad [125]),(.sc (.int .i64 (.ofNat 248)))]),(.sc (.bool true))])⟩
theorem eY:At Tryz.prog Hd.G wR:=Hd.entry (l:=[]) (m:=1000000) Hd.none (by kernel_rfl) (by kernel_rfl)
def uT:BC:=⟨152,[k0,(.sc (.int .i64 (.ofNat 264)))],none,(.Bh [(.agg [(.sc (.int .i64 (.ofNat 1))),(Ad [108]),(.sc (.int .i64 (.ofNat 264)))]),(.sc (.bool true))])⟩
theorem iU:At Tryz.prog Hd.G uT:=Hd.entry (l:=[]) (m:=1000000) Hd.none (by kernel_rfl) (by kernel_rfl)
def uH:BC:=⟨152,[k0,(.sc (.int .i64 (.ofNat 278)))],none,(.Bh [(.agg [(.sc (.int .i64 (.ofNat 5))),k1,(.sc (.int .i64 (.ofNat 278)))]),(.sc (.bool true))])⟩
theorem cS:At Tryz.prog Hd.G uH:=Hd.entry (l:=[]) (m:=1000000) Hd.none (by kernel_rfl) (by kernel_rfl)
def uO:BC:=⟨152,[k0,(.sc (.int .i64 (.ofNat 308)))],none,(.Bh [(.agg [(.sc (.int .i64 (.ofNat 1))),(Ad [117,110,108,101,115,115]),(.sc (.int .i64 (.ofNat 308)))]),(.sc (.bool true))])⟩
theorem fZ:At Tryz.prog Hd.G uO:=Hd.entry (l:=[]) (m:=1000000) Hd.none (by kernel_rfl) (by kernel_rfl)
def wO:BC:=⟨152,[k0,(.sc (.int .i64 (.ofNat 325)))],none,(.Bh [(.agg [(.sc (.int .i64 (.ofNat 2))),(Ad [69,85,82]),(.sc (.int .i64 (.ofNat 325)))]),(.sc (.bool true))])⟩
theorem iM:At Tryz.prog Hd.G wO:=Hd.entry (l:=[]) (m:=1000000) Hd.none (by kernel_rfl) (by kernel_rfl)
def uZ:BC:=⟨152,[k0,(.sc (.int .i64 (.ofNat 7)))],none,(.Bh [(.agg [(.sc (.int .i64 (.ofNat 6))),(Ad [58]),(.sc (.int .i64 (.ofNat 7)))]),(.sc (.bool true))])⟩
theorem eL:At Tryz.prog Hd.G uZ:=Hd.entry (l:=[]) (m:=1000000) Hd.none (by kernel_rfl) (by kernel_rfl)
def wW:BC:=⟨152,[k0,(.sc (.int .i64 (.ofNat 22)))],none,(.Bh [(.agg [(.sc (.int .i64 (.ofNat 1))),(Ad [108]),(.sc (.int .i64 (.ofNat 22)))]),(.sc (.bool true))])⟩
theorem eG:At Tryz.prog Hd.G wW:=Hd.entry (l:=[]) (m:=1000000) Hd.none (by kernel_rfl) (by kernel_rfl)
def wK:BC:=⟨152,[k0,(.sc (.int .i64 (.ofNat 34)))],none,(.Bh [(.agg [(.sc (.int .i64 (.ofNat 6))),(Ad [59]),(.sc (.int .i64 (.ofNat 34)))]),(.sc (.bool true))])⟩
theorem gT:At Tryz.prog Hd.G wK:=Hd.entry (l:=[]) (m:=1000000) Hd.none (by kernel_rfl) (by kernel_rfl)
def vE:BC:=⟨152,[k0,(.sc (.int .i64 (.ofNat 50)))],none,(.Bh [(.agg [(.sc (.int .i64 (.ofNat 1))),(Ad [108]),(.sc (.int .i64 (.ofNat 50)))]),(.sc (.bool true))])⟩
theorem eX:At Tryz.prog Hd.G vE:=Hd.entry (l:=[]) (m:=1000000) Hd.none (by kernel_rfl) (by kernel_rfl)
def vJ:BC:=⟨152,[k0,(.sc (.int .i64 (.ofNat 64)))],none,(.Bh [(.agg [(.sc (.int .i64 (.ofNat 5))),k1,(.sc (.int .i64 (.ofNat 64)))]),(.sc (.bool true))])⟩
theorem fE:At Tryz.prog Hd.G vJ:=Hd.entry (l:=[]) (m:=1000000) Hd.none (by kernel_rfl) (by kernel_rfl)
def tZ:BC:=⟨152,[k0,(.sc (.int .i64 (.ofNat 94)))],none,(.Bh [(.agg [(.sc (.int .i64 (.ofNat 1))),(Ad [119,104,101,110]),(.sc (.int .i64 (.ofNat 94)))]),(.sc (.bool true))])⟩
theorem jH:At Tryz.prog Hd.G tZ:=Hd.entry (l:=[]) (m:=1000000) Hd.none (by kernel_rfl) (by kernel_rfl)
def uB:BC:=⟨152,[k0,(.sc (.int .i64 (.ofNat 105)))],none,(.Bh [(.agg [(.sc (.int .i64 (.ofNat 6))),(Ad [59]),(.sc (.int .i64 (.ofNat 105)))]),(.sc (.bool true))])⟩
theorem gL:At Tryz.prog Hd.G uB:=Hd.entry (l:=[]) (m:=1000000) Hd.none (by kernel_rfl) (by kernel_rfl)
def wV:BC:=⟨152,[k0,(.sc (.int .i64 (.ofNat 123)))],none,(.Bh [(.agg [(.sc (.int .i64 (.ofNat 6))),(Ad [42]),(.sc (.int .i64 (.ofNat 123)))]),(.sc (.bool true))])⟩
theorem cK:At Tryz.prog Hd.G wV:=Hd.entry (l:=[]) (m:=1000000) Hd.none (by kernel_rfl) (by kernel_rfl)
def wX:BC:=⟨152,[k0,(.sc (.int .i64 (.ofNat 130)))],none,(.Bh [(.agg [(.sc (.int .i64 (.ofNat 1))),k3,(.sc (.int .i64 (.ofNat 130)))]),(.sc (.bool true))])⟩
theorem eZ:At Tryz.prog Hd.G wX:=Hd.entry (l:=[]) (m:=1000000) Hd.none (by kernel_rfl) (by kernel_rfl)
def uK:BC:=⟨152,[k0,(.sc (.int .i64 (.ofNat 146)))],none,(.Bh [(.agg [(.sc (.int .i64 (.ofNat 1))),(Ad [114,97,110,107]),(.sc (.int .i64 (.ofNat 146)))]),(.sc (.bool true))])⟩
theorem dM:At Tryz.prog Hd.G uK:=Hd.entry (l:=[]) (m:=1000000) Hd.none (by kernel_rfl) (by kernel_rfl)
def wC:BC:=⟨152,[k0,(.sc (.int .i64 (.ofNat 169)))],none,(.Bh [(.agg [(.sc (.int .i64 (.ofNat 1))),(Ad [116,111]),(.sc (.int .i64 (.ofNat 169)))]),(.sc (.bool true))])⟩
theorem g8:At Tryz.prog Hd.G wC:=Hd.entry (l:=[]) (m:=1000000) Hd.none (by kernel_rfl) (by kernel_rfl)
def vY:BC:=⟨152,[k0,(.sc (.int .i64 (.ofNat 200)))],none,(.Bh [(.agg [(.sc (.int .i64 (.ofNat 6))),(Ad [123]),(.sc (.int .i64 (.ofNat 200)))]),(.sc (.bool true))])⟩
theorem fR:At Tryz.prog Hd.G vY:=Hd.entry (l:=[]) (m:=1000000) Hd.none (by kernel_rfl) (by kernel_rfl)
def vD:BC:=⟨152,[k0,(.sc (.int .i64 (.ofNat 218)))],none,(.Bh [(.agg [(.sc (.int .i64 (.ofNat 3))),(Ad [49]),(.sc (.int .i64 (.ofNat 218)))]),(.sc (.bool true))])⟩
theorem dQ:At Tryz.prog Hd.G vD:=Hd.entry (l:=[]) (m:=1000000) Hd.none (by kernel_rfl) (by kernel_rfl)
def vK:BC:=⟨152,[k0,(.sc (.int .i64 (.ofNat 228)))],none,(.Bh [(.agg [(.sc (.int .i64 (.ofNat 6))),(Ad [33,61]),(.sc (.int .i64 (.ofNat 228)))]),(.sc (.bool true))])⟩
theorem jL:At Tryz.prog Hd.G vK:=Hd.entry (l:=[]) (m:=1000000) Hd.none (by kernel_rfl) (by kernel_rfl)
def tX:BC:=⟨152,[k0,(.sc (.int .i64 (.ofNat 241)))],none,(.Bh [(.agg [(.sc (.int .i64 (.ofNat 1))),(Ad [97,114,116]),(.sc (.int .i64 (.ofNat 241)))]),(.sc (.bool true))])⟩
theorem iZ:At Tryz.prog Hd.G tX:=Hd.entry (l:=[]) (m:=1000000) Hd.none (by kernel_rfl) (by kernel_rfl)
def u4:BC:=⟨152,[k0,(.sc (.int .i64 (.ofNat 250)))],none,(.Bh [(.agg [(.sc (.int .i64 (.ofNat 1))),k3,(.sc (.int .i64 (.ofNat 250)))]),(.sc (.bool true))])⟩
theorem eQ:At Tryz.prog Hd.G u4:=Hd.entry (l:=[]) (m:=1000000) Hd.none (by kernel_rfl) (by kernel_rfl)
def tV:BC:=⟨152,[k0,(.sc (.int .i64 (.ofNat 266)))],none,(.Bh [(.agg [(.sc (.int .i64 (.ofNat 1))),(Ad [114,97,110,107]),(.sc (.int .i64 (.ofNat 266)))]),(.sc (.bool true))])⟩
theorem cP:At Tryz.prog Hd.G tV:=Hd.entry (l:=[]) (m:=1000000) Hd.none (by kernel_rfl) (by kernel_rfl)
def vX:BC:=⟨152,[k0,(.sc (.int .i64 (.ofNat 289)))],none,(.Bh [(.agg [(.sc (.int .i64 (.ofNat 1))),(Ad [107,110,111,119,110]),(.sc (.int .i64 (.ofNat 289)))]),(.sc (.bool true))])⟩
theorem jU:At Tryz.prog Hd.G vX:=Hd.entry (l:=[]) (m:=1000000) Hd.none (by kernel_rfl) (by kernel_rfl)
def wL:BC:=⟨152,[k0,(.sc (.int .i64 (.ofNat 315)))],none,(.Bh [(.agg [(.sc (.int .i64 (.ofNat 3))),(Ad [49]),(.sc (.int .i64 (.ofNat 315)))]),(.sc (.bool true))])⟩
theorem eE:At Tryz.prog Hd.G wL:=Hd.entry (l:=[]) (m:=1000000) Hd.none (by kernel_rfl) (by kernel_rfl)
def vT:BC:=⟨152,[k0,(.sc (.int .i64 (.ofNat 329)))],none,(.Bh [(.agg [(.sc (.int .i64 (.ofNat 4))),(Ad [48,46,48,48]),(.sc (.int .i64 (.ofNat 329)))]),(.sc (.bool true))])⟩
theorem fI:At Tryz.prog Hd.G vT:=Hd.entry (l:=[]) (m:=1000000) Hd.none (by kernel_rfl) (by kernel_rfl)
def uW:BC:=⟨152,[k0,(.sc (.int .i64 (.ofNat 9)))],none,(.Bh [(.agg [(.sc (.int .i64 (.ofNat 1))),(Ad [110,117,109,98,101,114]),(.sc (.int .i64 (.ofNat 9)))]),(.sc (.bool true))])⟩
theorem g7:At Tryz.prog Hd.G uW:=Hd.entry (l:=[]) (m:=1000000) Hd.none (by kernel_rfl) (by kernel_rfl)
def vV:BC:=⟨152,[k0,(.sc (.int .i64 (.ofNat 24)))],none,(.Bh [(.agg [(.sc (.int .i64 (.ofNat 6))),(Ad [58]),(.sc (.int .i64 (.ofNat 24)))]),(.sc (.bool true))])⟩
theorem iD:At Tryz.prog Hd.G vV:=Hd.entry (l:=[]) (m:=1000000) Hd.none (by kernel_rfl) (by kernel_rfl)
def wT:BC:=⟨152,[k0,(.sc (.int .i64 (.ofNat 36)))],none,(.Bh [(.agg [(.sc (.int .i64 (.ofNat 1))),k3,(.sc (.int .i64 (.ofNat 36)))]),(.sc (.bool true))])⟩
theorem dC:At Tryz.prog Hd.G wT:=Hd.entry (l:=[]) (m:=1000000) Hd.none (by kernel_rfl) (by kernel_rfl)
def vG:BC:=⟨152,[k0,(.sc (.int .i64 (.ofNat 52)))],none,(.Bh [(.agg [(.sc (.int .i64 (.ofNat 1))),(Ad [114,97,110,107]),(.sc (.int .i64 (.ofNat 52)))]),(.sc (.bool true))])⟩
theorem iE:At Tryz.prog Hd.G vG:=Hd.entry (l:=[]) (m:=1000000) Hd.none (by kernel_rfl) (by kernel_rfl)
def u5:BC:=⟨152,[k0,(.sc (.int .i64 (.ofNat 75)))],none,(.Bh [(.agg [(.sc (.int .i64 (.ofNat 1))),(Ad [107,110,111,119,110]),(.sc (.int .i64 (.ofNat 75)))]),(.sc (.bool true))])⟩
theorem dE:At Tryz.prog Hd.G u5:=Hd.entry (l:=[]) (m:=1000000) Hd.none (by kernel_rfl) (by kernel_rfl)
def u9:BC:=⟨152,[k0,(.sc (.int .i64 (.ofNat 99)))],none,(.Bh [(.agg [(.sc (.int .i64 (.ofNat 1))),(Ad [97]),(.sc (.int .i64 (.ofNat 99)))]),(.sc (.bool true))])⟩
theorem eF:At Tryz.prog Hd.G u9:=Hd.entry (l:=[]) (m:=1000000) Hd.none (by kernel_rfl) (by kernel_rfl)
def vM:BC:=⟨152,[k0,(.sc (.int .i64 (.ofNat 107)))],none,(.Bh [(.agg [(.sc (.int .i64 (.ofNat 1))),(Ad [97,109,111,117,110,116]),(.sc (.int .i64 (.ofNat 107)))]),(.sc (.bool true))])⟩
theorem iB:At Tryz.prog Hd.G vM:=Hd.entry (l:=[]) (m:=1000000) Hd.none (by kernel_rfl) (by kernel_rfl)
def v7:BC:=⟨152,[k0,(.sc (.int .i64 (.ofNat 125)))],none,(.Bh [(.agg [(.sc (.int .i64 (.ofNat 1))),(Ad [97]),(.sc (.int .i64 (.ofNat 125)))]),(.sc (.bool true))])⟩
theorem gD:At Tryz.prog Hd.G v7:=Hd.entry (l:=[]) (m:=1000000) Hd.none (by kernel_rfl) (by kernel_rfl)
def uE:BC:=⟨152,[k0,(.sc (.int .i64 (.ofNat 138)))],none,(.Bh [(.agg [(.sc (.int .i64 (.ofNat 3))),(Ad [50]),(.sc (.int .i64 (.ofNat 138)))]),(.sc (.bool true))])⟩
theorem dW:At Tryz.prog Hd.G uE:=Hd.entry (l:=[]) (m:=1000000) Hd.none (by kernel_rfl) (by kernel_rfl)
def v9:BC:=⟨152,[k0,(.sc (.int .i64 (.ofNat 151)))],none,(.Bh [(.agg [(.sc (.int .i64 (.ofNat 3))),(Ad [48]),(.sc (.int .i64 (.ofNat 151)))]),(.sc (.bool true))])⟩
theorem fX:At Tryz.prog Hd.G v9:=Hd.entry (l:=[]) (m:=1000000) Hd.none (by kernel_rfl) (by kernel_rfl)
def v3:BC:=⟨152,[k0,(.sc (.int .i64 (.ofNat 172)))],none,(.Bh [(.agg [(.sc (.int .i64 (.ofNat 5))),k4,(.sc (.int .i64 (.ofNat 172)))]),(.sc (.bool true))])⟩
theorem fM:At Tryz.prog Hd.G v3:=Hd.entry (l:=[]) (m:=1000000) Hd.none (by kernel_rfl) (by kernel_rfl)
def vU:BC:=⟨152,[k0,(.sc (.int .i64 (.ofNat 202)))],none,(.Bh [(.agg [(.sc (.int .i64 (.ofNat 1))),(Ad [119,104,101,110]),(.sc (.int .i64 (.ofNat 202)))]),(.sc (.bool true))])⟩
theorem eU:At Tryz.prog Hd.G vU:=Hd.entry (l:=[]) (m:=1000000) Hd.none (by kernel_rfl) (by kernel_rfl)
def vI:BC:=⟨152,[k0,(.sc (.int .i64 (.ofNat 219)))],none,(.Bh [(.agg [(.sc (.int .i64 (.ofNat 6))),(Ad [59]),(.sc (.int .i64 (.ofNat 219)))]),(.sc (.bool true))])⟩
theorem iN:At Tryz.prog Hd.G vI:=Hd.entry (l:=[]) (m:=1000000) Hd.none (by kernel_rfl) (by kernel_rfl)
def uN:BC:=⟨152,[k0,(.sc (.int .i64 (.ofNat 231)))],none,(.Bh [(.agg [(.sc (.int .i64 (.ofNat 3))),(Ad [51]),(.sc (.int .i64 (.ofNat 231)))]),(.sc (.bool true))])⟩
theorem fV:At Tryz.prog Hd.G uN:=Hd.entry (l:=[]) (m:=1000000) Hd.none (by kernel_rfl) (by kernel_rfl)
def uG:BC:=⟨152,[k0,(.sc (.int .i64 (.ofNat 245)))],none,(.Bh [(.agg [(.sc (.int .i64 (.ofNat 3))),(Ad [51]),(.sc (.int .i64 (.ofNat 245)))]),(.sc (.bool true))])⟩
theorem dI:At Tryz.prog Hd.G uG:=Hd.entry (l:=[]) (m:=1000000) Hd.none (by kernel_rfl) (by kernel_rfl)
def wP:BC:=⟨152,[k0,(.sc (.int .i64 (.ofNat 258)))],none,(.Bh [(.agg [(.sc (.int .i64 (.ofNat 3))),(Ad [51]),(.sc (.int .i64 (.ofNat 258)))]),(.sc (.bool true))])⟩
theorem gM:At Tryz.prog Hd.G wP:=Hd.entry (l:=[]) (m:=1000000) Hd.none (by kernel_rfl) (by kernel_rfl)
def vH:BC:=⟨152,[k0,(.sc (.int .i64 (.ofNat 271)))],none,(.Bh [(.agg [(.sc (.int .i64 (.ofNat 3))),(Ad [48]),(.sc (.int .i64 (.ofNat 271)))]),(.sc (.bool true))])⟩
theorem jE:At Tryz.prog Hd.G vH:=Hd.entry (l:=[]) (m:=1000000) Hd.none (by kernel_rfl) (by kernel_rfl)
def vS:BC:=⟨152,[k0,(.sc (.int .i64 (.ofNat 295)))],none,(.Bh [(.agg [(.sc (.int .i64 (.ofNat 5))),k5,(.sc (.int .i64 (.ofNat 295)))]),(.sc (.bool true))])⟩
theorem eH:At Tryz.prog Hd.G vS:=Hd.entry (l:=[]) (m:=1000000) Hd.none (by kernel_rfl) (by kernel_rfl)
def uA:BC:=⟨152,[k0,(.sc (.int .i64 (.ofNat 316)))],none,(.Bh [(.agg [(.sc (.int .i64 (.ofNat 6))),(Ad [59]),(.sc (.int .i64 (.ofNat 316)))]),(.sc (.bool true))])⟩
theorem gJ:At Tryz.prog Hd.G uA:=Hd.entry (l:=[]) (m:=1000000) Hd.none (by kernel_rfl) (by kernel_rfl)
def wE:BC:=⟨152,[k0,(.sc (.int .i64 (.ofNat 333)))],none,(.Bh [(.agg [(.sc (.int .i64 (.ofNat 6))),(Ad [59]),(.sc (.int .i64 (.ofNat 333)))]),(.sc (.bool true))])⟩
theorem dA:At Tryz.prog Hd.G wE:=Hd.entry (l:=[]) (m:=1000000) Hd.none (by kernel_rfl) (by kernel_rfl)
def vC:BC:=⟨115,[k0],none,(.Bh [k6,(.sc (.int .i64 (.ofNat 0))),(.sc (.int .i64 (.ofNat 0)))])⟩
theorem dV:At Tryz.prog Hd.G vC:=Hd.entry (l:=[e0,e1,e2,e3,e4,e5,e6,e7,e8,e9,pY,vQ,uX,wG,vP,tY,w7,uC,v5,uY,uJ,wN,wY,uF,wM,wS,uV,wA,vA,uU,uM,wZ,wH,u7,uQ,uI,wR,uT,uH,uO,wO,uZ,wW,wK,vE,vJ,tZ,uB,wV,wX,uK,wC,vY,vD,vK,tX,u4,tV,vX,wL,vT,uW,vV,wT,vG,u5,u9,vM,v7,uE,v9,v3,vU,vI,uN,uG,wP,vH,vS,uA,wE]) (m:=1000000) (Ag.cons mW (Ag.cons lR (Ag.cons oO (Ag.cons mY (Ag.cons mM (Ag.cons pG (Ag.cons kS (Ag.cons kQ (Ag.cons pC (Ag.cons pJ (Ag.cons jB (Ag.cons jI (Ag.cons iQ (Ag.cons cY (Ag.cons jO (Ag.cons iX (Ag.cons gR (Ag.cons eK (Ag.cons jW (Ag.cons gH (Ag.cons gF (Ag.cons eV (Ag.cons jK (Ag.cons fH (Ag.cons fS (Ag.cons gZ (Ag.cons dH (Ag.cons iJ (Ag.cons gV (Ag.cons gG (Ag.cons dP (Ag.cons eD (Ag.cons cM (Ag.cons dD (Ag.cons jP (Ag.cons cI (Ag.cons eY (Ag.cons iU (Ag.cons cS (Ag.cons fZ (Ag.cons iM (Ag.cons eL (Ag.cons eG (Ag.cons gT (Ag.cons eX (Ag.cons fE (Ag.cons jH (Ag.cons gL (Ag.cons cK (Ag.cons eZ (Ag.cons dM (Ag.cons g8 (Ag.cons fR (Ag.cons dQ (Ag.cons jL (Ag.cons iZ (Ag.cons eQ (Ag.cons cP (Ag.cons jU (Ag.cons eE (Ag.cons fI (Ag.cons g7 (Ag.cons iD (Ag.cons dC (Ag.cons iE (Ag.cons dE (Ag.cons eF (Ag.cons iB (Ag.cons gD (Ag.cons dW (Ag.cons fX (Ag.cons fM (Ag.cons eU (Ag.cons iN (Ag.cons fV (Ag.cons dI (Ag.cons gM (Ag.cons jE (Ag.cons eH (Ag.cons gJ (Ag.cons dA Hd.none))))))))))))))))))))))))))))))))))))))))))))))))))))))))))))))))))))))))))))))))) (by kernel_rfl) (by kernel_rfl)
end Go.Proofs.YtnijkdknnmgoeaaGreat
namespace Go.Proofs.YtnijkdknnmgoeaaGreat
open AI
set_option maxRecDepth 100000
set_option maxHeartbeats 4000000
def k7:AV:=Ad [109,105,110,117,116,101,115]
def k8:AV:=Ad [103,114,101,97,116,101,115,116]
def k9:AV:=.sl .full 33 [(Ad [102,97,99,116]),(Ad [108,105,110,101]),k3,(Ad [102,111,114]),(Ad [114,97,110,107]),(Ad [102,114,111,109]),(Ad [116,111]),(Ad [107,110,111,119,110]),(Ad [119,104,101,110]),(Ad [117,110,108,101,115,115]),(Ad [97,109,111,117,110,116]),(Ad [116,114,117,116,104]),(Ad [110,117,109,98,101,114]),k7,(Ad [109,105,110]),(Ad [101,97,114,110]),(Ad [100,101,100,117,99,116]),(Ad [102,108,111,111,114]),(Ad [105,110,102,111]),(Ad [111,114]),(Ad [97,110,100]),(Ad [110,111,116]),(Ad [97,116]),(Ad [116,114,117,101]),(Ad [102,97,108,115,101]),(Ad [97,114,116]),k2,(Ad [100,97,121]),(Ad [109,111,110,116,104]),(Ad [121,101,97,114]),(Ad [108,101,97,115,116]),k8,(Ad [116,97,98,108,101])]
def wJ:AV:=.sl .full 2 [(.sc (.int .i64 (.ofNat 12))),(Ad [97]),(Ad []),(.sc (.int .i64 (.ofNat 0))),(.sc (.int .i64 (.ofNat 0))),(.sc (.int .i64 (.ofNat 0))),(.sc (.int .i64 (.ofNat 0))),(.sc (.int .i64 (.ofNat 0))),(.sl .full 0 []),(.sl .full 0 []),(.sc (.int .i64 (.ofNat 99))),(.sc (.int .i64 (.ofNat 11))),(Ad []),(Ad [110,117,109,98,101,114]),(.sc (.int .i64 (.ofNat 3))),(.sc (.int .i64 (.ofNat 0))),(.sc (.int .i64 (.ofNat 0))),(.sc (.int .i64 (.ofNat 0))),(.sc (.int .i64 (.ofNat 0))),(.sl .full 0 []),(.sl .full 0 []),(.sc (.int .i64 (.ofNat 104)))]
def kE:AV:=.sl .full 2 [(.sc (.int .i64 (.ofNat 11))),(Ad []),(Ad [69,85,82]),(.sc (.int .i64 (.ofNat 100))),(.sc (.int .i64 (.ofNat 0))),(.sc (.int .i64 (.ofNat 0))),(.sc (.int .i64 (.ofNat 0))),(.sc (.int .i64 (.ofNat 0))),(.sl .full 0 []),(.sl .full 0 []),(.sc (.int .i64 (.ofNat 114))),(.sc (.int .i64 (.ofNat 12))),(Ad [97]),(Ad []),(.sc (.int .i64 (.ofNat 0))),(.sc (.int .i64 (.ofNat 0))),(.sc (.int .i64 (.ofNat 0))),(.sc (.int .i64 (.ofNat 0))),(.sc (.int .i64 (.ofNat 0))),(.sl .full 0 []),(.sl .full 0 []),(.sc (.int .i64 (.ofNat 125)))]
def kC:AV:=.sl .full 1 [(.sc (.int .i64 (.ofNat 16))),(Ad [33,61]),(Ad []),(.sc (.int .i64 (.ofNat 0))),(.sc (.int .i64 (.ofNat 0))),(.sc (.int .i64 (.ofNat 0))),(.sc (.int .i64 (.ofNat 0))),(.sc (.int .i64 (.ofNat 0))),(.sl .full 0 []),wJ,(.sc (.int .i64 (.ofNat 99)))]
def kJ:AV:=.sl .full 1 [(.sc (.int .i64 (.ofNat 16))),(Ad [42]),(Ad []),(.sc (.int .i64 (.ofNat 0))),(.sc (.int .i64 (.ofNat 0))),(.sc (.int .i64 (.ofNat 0))),(.sc (.int .i64 (.ofNat 0))),(.sc (.int .i64 (.ofNat 0))),(.sl .full 0 []),kE,(.sc (.int .i64 (.ofNat 114)))]
def mX:AV:=.sl .lost 2 [(.sc (.int .i64 (.ofNat 6))),(Ad []),(Ad []),(.sc (.int .i64 (.ofNat 0))),(.sc (.int .i64 (.ofNat 0))),(.sc (.int .i64 (.ofNat 0))),(.sc (.int .i64 (.ofNat 0))),(.sc (.int .i64 (.ofNat 0))),(.sl .full 0 []),kC,(.sc (.int .i64 (.ofNat 94))),(.sc (.int .i64 (.ofNat 8))),(Ad []),(Ad []),(.sc (.int .i64 (.ofNat 0))),(.sc (.int .i64 (.ofNat 0))),(.sc (.int .i64 (.ofNat 0))),(.sc (.int .i64 (.ofNat 0))),(.sc (.int .i64 (.ofNat 0))),(.sl .full 0 []),kJ,(.sc (.int .i64 (.ofNat 107)))]
def iS:AV:=.sl .lost 3 [(.sc (.int .i64 (.ofNat 5))),(Ad []),(Ad []),(.sc (.int .i64 (.ofNat 0))),(.sc (.int .i64 (.ofNat 8766))),(.sc (.int .i64 (.ofNat 36525))),(.sc (.int .i64 (.ofNat 8766))),(.sc (.int .i64 (.ofNat 0))),(.sl .full 0 []),(.sl .full 0 []),(.sc (.int .i64 (.ofNat 52))),(.sc (.int .i64 (.ofNat 6))),(Ad []),(Ad []),(.sc (.int .i64 (.ofNat 0))),(.sc (.int .i64 (.ofNat 0))),(.sc (.int .i64 (.ofNat 0))),(.sc (.int .i64 (.ofNat 0))),(.sc (.int .i64 (.ofNat 0))),(.sl .full 0 []),kC,(.sc (.int .i64 (.ofNat 94))),(.sc (.int .i64 (.ofNat 8))),(Ad []),(Ad []),(.sc (.int .i64 (.ofNat 0))),(.sc (.int .i64 (.ofNat 0))),(.sc (.int .i64 (.ofNat 0))),(.sc (.int .i64 (.ofNat 0))),(.sc (.int .i64 (.ofNat 0))),(.sl .full 0 []),kJ,(.sc (.int .i64 (.ofNat 107)))]
def RZ:BC:=⟨104,[k9,(Ad [97])],none,(.sc (.bool false))⟩
theorem FD:At Tryz.prog Hd.G RZ:=Hd.entry (l:=[]) (m:=1000000) Hd.none (by kernel_rfl) (by kernel_rfl)
def w8:BC:=⟨117,[],(some ([k6,(.sc (.int .i64 (.ofNat 0))),(.sc (.int .i64 (.ofNat 336))),(.sc (.int .i64 (.ofNat 0))),(.sc (.int .i64 (.ofNat 0)))],[k6,(.sc (.int .i64 (.ofNat 5))),(.sc (.int .i64 (.ofNat 336))),(.sc (.int .i64 (.ofNat 0))),(.sc (.int .i64 (.ofNat 0)))])),(.agg [(.sc (.int .i64 (.ofNat 2))),(Ad [97]),(Ad [110,117,109,98,101,114]),(.sc (.int .i64 (.ofNat 0))),(.sc (.int .i64 (.ofNat 0))),(.sc (.int .i64 (.ofNat 0))),(.sc (.int .i64 (.ofNat 0))),(.sc (.int .i64 (.ofNat 0))),(.sl .full 0 []),(.sl .full 0 []),(.sc (.int .i64 (.ofNat 0)))])⟩
theorem c8:At Tryz.prog Hd.G w8:=Hd.entry (l:=[RZ]) (m:=1000000) (Ag.cons FD Hd.none) (by kernel_rfl) (by kernel_rfl)
def SS:BC:=⟨104,[k9,(Ad [108])],none,(.sc (.bool false))⟩
theorem F4:At Tryz.prog Hd.G SS:=Hd.entry (l:=[]) (m:=1000000) Hd.none (by kernel_rfl) (by kernel_rfl)
def vF:BC:=⟨117,[],(some ([k6,(.sc (.int .i64 (.ofNat 5))),(.sc (.int .i64 (.ofNat 336))),(.sc (.int .i64 (.ofNat 0))),(.sc (.int .i64 (.ofNat 0)))],[k6,(.sc (.int .i64 (.ofNat 11))),(.sc (.int .i64 (.ofNat 336))),(.sc (.int .i64 (.ofNat 0))),(.sc (.int .i64 (.ofNat 0)))])),(.agg [(.sc (.int .i64 (.ofNat 3))),(Ad [108]),(Ad [69,85,82]),(.sc (.int .i64 (.ofNat 1))),(.sc (.int .i64 (.ofNat 0))),(.sc (.int .i64 (.ofNat 0))),(.sc (.int .i64 (.ofNat 0))),(.sc (.int .i64 (.ofNat 0))),(.sl .full 0 []),(.sl .full 0 []),(.sc (.int .i64 (.ofNat 17)))])⟩
theorem fN:At Tryz.prog Hd.G vF:=Hd.entry (l:=[RZ,SS]) (m:=1000000) (Ag.cons FD (Ag.cons F4 Hd.none)) (by kernel_rfl) (by kernel_rfl)
def Xz:BC:=⟨199,[k1],none,(.Bh [(.sc (.int .i64 (.ofNat 8766))),(.sc (.int .i64 (.ofNat 0)))])⟩
theorem Iy:At Tryz.prog Hd.G Xz:=Hd.entry (l:=[]) (m:=1000000) Hd.none (by kernel_rfl) (by kernel_rfl)
def p6:BC:=⟨159,[],(some ([k6,(.sc (.int .i64 (.ofNat 15))),(.sc (.int .i64 (.ofNat 336))),(.sc (.int .i64 (.ofNat 0))),(.sc (.int .i64 (.ofNat 0)))],[k6,(.sc (.int .i64 (.ofNat 21))),(.sc (.int .i64 (.ofNat 336))),(.sc (.int .i64 (.ofNat 0))),(.sc (.int .i64 (.ofNat 0)))])),(.agg [(.sc (.int .i64 (.ofNat 5))),(Ad []),(Ad []),(.sc (.int .i64 (.ofNat 0))),(.sc (.int .i64 (.ofNat 8766))),(.sc (.int .i64 (.ofNat 36525))),(.sc (.int .i64 (.ofNat 8766))),(.sc (.int .i64 (.ofNat 0))),(.sl .full 0 []),(.sl .full 0 []),(.sc (.int .i64 (.ofNat 52)))])⟩
theorem RI:At Tryz.prog Hd.G p6:=Hd.entry (l:=[Xz]) (m:=1000000) (Ag.cons Iy Hd.none) (by kernel_rfl) (by kernel_rfl)
def pX:BC:=⟨187,[],(some ([k6,(.sc (.int .i64 (.ofNat 23))),(.sc (.int .i64 (.ofNat 336))),(.sc (.int .i64 (.ofNat 0))),(.sc (.int .i64 (.ofNat 0)))],[k6,(.sc (.int .i64 (.ofNat 26))),(.sc (.int .i64 (.ofNat 336))),(.sc (.int .i64 (.ofNat 0))),(.sc (.int .i64 (.ofNat 0)))])),(.agg [(.sc (.int .i64 (.ofNat 16))),(Ad [33,61]),(Ad []),(.sc (.int .i64 (.ofNat 0))),(.sc (.int .i64 (.ofNat 0))),(.sc (.int .i64 (.ofNat 0))),(.sc (.int .i64 (.ofNat 0))),(.sc (.int .i64 (.ofNat 0))),(.sl .full 0 []),wJ,(.sc (.int .i64 (.ofNat 99)))])⟩
theorem RA:At Tryz.prog Hd.G pX:=Hd.entry (l:=[RZ,SS]) (m:=1000000) (Ag.cons FD (Ag.cons F4 Hd.none)) (by kernel_rfl) (by kernel_rfl)
def pN:BC:=⟨187,[],(some ([k6,(.sc (.int .i64 (.ofNat 28))),(.sc (.int .i64 (.ofNat 336))),(.sc (.int .i64 (.ofNat 0))),(.sc (.int .i64 (.ofNat 0)))],[k6,(.sc (.int .i64 (.ofNat 32))),(.sc (.int .i64 (.ofNat 336))),(.sc (.int .i64 (.ofNat 0))),(.sc (.int .i64 (.ofNat 0)))])),(.agg [(.sc (.int .i64 (.ofNat 16))),(Ad [42]),(Ad []),(.sc (.int .i64 (.ofNat 0))),(.sc (.int .i64 (.ofNat 0))),(.sc (.int .i64 (.ofNat 0))),(.sc (.int .i64 (.ofNat 0))),(.sc (.int .i64 (.ofNat 0))),(.sl .full 0 []),kE,(.sc (.int .i64 (.ofNat 114)))])⟩
theorem R2:At Tryz.prog Hd.G pN:=Hd.entry (l:=[RZ,SS]) (m:=1000000) (Ag.cons FD (Ag.cons F4 Hd.none)) (by kernel_rfl) (by kernel_rfl)
def pT:BC:=⟨160,[],(some ([k6,(.sc (.int .i64 (.ofNat 21))),(.sc (.int .i64 (.ofNat 336))),(.sc (.int .i64 (.ofNat 0))),(.sc (.int .i64 (.ofNat 0)))],[k6,(.sc (.int .i64 (.ofNat 34))),(.sc (.int .i64 (.ofNat 336))),(.sc (.int .i64 (.ofNat 0))),(.sc (.int .i64 (.ofNat 0)))])),mX⟩
theorem Sj:At Tryz.prog Hd.G pT:=Hd.entry (l:=[pX,pN]) (m:=1000000) (Ag.cons RA (Ag.cons R2 Hd.none)) (by kernel_rfl) (by kernel_rfl)
def vB:BC:=⟨117,[],(some ([k6,(.sc (.int .i64 (.ofNat 11))),(.sc (.int .i64 (.ofNat 336))),(.sc (.int .i64 (.ofNat 0))),(.sc (.int .i64 (.ofNat 0)))],[k6,(.sc (.int .i64 (.ofNat 34))),(.sc (.int .i64 (.ofNat 336))),(.sc (.int .i64 (.ofNat 0))),(.sc (.int .i64 (.ofNat 0)))])),(.agg [(.sc (.int .i64 (.ofNat 4))),(Ad [108]),(Ad []),(.sc (.int .i64 (.ofNat 1))),(.sc (.int .i64 (.ofNat 0))),(.sc (.int .i64 (.ofNat 0))),(.sc (.int .i64 (.ofNat 0))),(.sc (.int .i64 (.ofNat 0))),(.sl .full 0 []),iS,(.sc (.int .i64 (.ofNat 36)))])⟩
theorem iA:At Tryz.prog Hd.G vB:=Hd.entry (l:=[RZ,SS,Xz,p6,pT]) (m:=1000000) (Ag.cons FD (Ag.cons F4 (Ag.cons Iy (Ag.cons RI (Ag.cons Sj Hd.none))))) (by kernel_rfl) (by kernel_rfl)
def aW:BC:=⟨199,[k4],none,(.Bh [(.sc (.int .i64 (.ofNat 9132))),(.sc (.int .i64 (.ofNat 0)))])⟩
theorem J7:At Tryz.prog Hd.G aW:=Hd.entry (l:=[]) (m:=1000000) Hd.none (by kernel_rfl) (by kernel_rfl)
end Go.Proofs.YtnijkdknnmgoeaaGreat
namespace Go.Proofs.YtnijkdknnmgoeaaGreat
open AI
set_option maxRecDepth 100000
set_option maxHeartbeats 4000000
def ZB:AV:=.sl .full 2 [(.sc (.int .i64 (.ofNat 14))),k2,(Ad []),(.sc (.int .i64 (.ofNat 0))),(.sc (.int .i64 (.ofNat 0))),(.sc (.int .i64 (.ofNat 0))),(.sc (.int .i64 (.ofNat 0))),(.sc (.int .i64 (.ofNat 0))),(.sl .full 0 []),(.sl .full 0 []),(.sc (.int .i64 (.ofNat 207))),(.sc (.int .i64 (.ofNat 11))),(Ad []),(Ad [110,117,109,98,101,114]),(.sc (.int .i64 (.ofNat 1))),(.sc (.int .i64 (.ofNat 0))),(.sc (.int .i64 (.ofNat 0))),(.sc (.int .i64 (.ofNat 0))),(.sc (.int .i64 (.ofNat 0))),(.sl .full 0 []),(.sl .full 0 []),(.sc (.int .i64 (.ofNat 218)))]
def kD:AV:=.sl .full 2 [(.sc (.int .i64 (.ofNat 12))),(Ad [97]),(Ad []),(.sc (.int .i64 (.ofNat 0))),(.sc (.int .i64 (.ofNat 0))),(.sc (.int .i64 (.ofNat 0))),(.sc (.int .i64 (.ofNat 0))),(.sc (.int .i64 (.ofNat 0))),(.sl .full 0 []),(.sl .full 0 []),(.sc (.int .i64 (.ofNat 226))),(.sc (.int .i64 (.ofNat 11))),(Ad []),(Ad [110,117,109,98,101,114]),(.sc (.int .i64 (.ofNat 3))),(.sc (.int .i64 (.ofNat 0))),(.sc (.int .i64 (.ofNat 0))),(.sc (.int .i64 (.ofNat 0))),(.sc (.int .i64 (.ofNat 0))),(.sl .full 0 []),(.sl .full 0 []),(.sc (.int .i64 (.ofNat 231)))]
def jY:AV:=.sl .full 1 [(.sc (.int .i64 (.ofNat 16))),(Ad [61,61]),(Ad []),(.sc (.int .i64 (.ofNat 0))),(.sc (.int .i64 (.ofNat 0))),(.sc (.int .i64 (.ofNat 0))),(.sc (.int .i64 (.ofNat 0))),(.sc (.int .i64 (.ofNat 0))),(.sl .full 0 []),ZB,(.sc (.int .i64 (.ofNat 207)))]
def wQ:AV:=.sl .full 1 [(.sc (.int .i64 (.ofNat 16))),(Ad [33,61]),(Ad []),(.sc (.int .i64 (.ofNat 0))),(.sc (.int .i64 (.ofNat 0))),(.sc (.int .i64 (.ofNat 0))),(.sc (.int .i64 (.ofNat 0))),(.sc (.int .i64 (.ofNat 0))),(.sl .full 0 []),kD,(.sc (.int .i64 (.ofNat 226)))]
def X8:AV:=.sl .full 1 [(.sc (.int .i64 (.ofNat 13))),(Ad []),(Ad []),(.sc (.int .i64 (.ofNat 3))),(.sc (.int .i64 (.ofNat 0))),(.sc (.int .i64 (.ofNat 0))),(.sc (.int .i64 (.ofNat 0))),(.sc (.int .i64 (.ofNat 0))),(.sl .full 0 []),(.sl .full 0 []),(.sc (.int .i64 (.ofNat 241)))]
def zE:AV:=.sl .lost 3 [(.sc (.int .i64 (.ofNat 6))),(Ad []),(Ad []),(.sc (.int .i64 (.ofNat 0))),(.sc (.int .i64 (.ofNat 0))),(.sc (.int .i64 (.ofNat 0))),(.sc (.int .i64 (.ofNat 0))),(.sc (.int .i64 (.ofNat 0))),(.sl .full 0 []),jY,(.sc (.int .i64 (.ofNat 202))),(.sc (.int .i64 (.ofNat 6))),(Ad []),(Ad []),(.sc (.int .i64 (.ofNat 0))),(.sc (.int .i64 (.ofNat 0))),(.sc (.int .i64 (.ofNat 0))),(.sc (.int .i64 (.ofNat 0))),(.sc (.int .i64 (.ofNat 0))),(.sl .full 0 []),wQ,(.sc (.int .i64 (.ofNat 221))),(.sc (.int .i64 (.ofNat 8))),(Ad []),(Ad []),(.sc (.int .i64 (.ofNat 0))),(.sc (.int .i64 (.ofNat 0))),(.sc (.int .i64 (.ofNat 0))),(.sc (.int .i64 (.ofNat 0))),(.sc (.int .i64 (.ofNat 0))),(.sl .full 0 []),X8,(.sc (.int .i64 (.ofNat 234)))]
def tR:AV:=.sl .lost 4 [(.sc (.int .i64 (.ofNat 5))),(Ad []),(Ad []),(.sc (.int .i64 (.ofNat 0))),(.sc (.int .i64 (.ofNat 8766))),(.sc (.int .i64 (.ofNat 9132))),(.sc (.int .i64 (.ofNat 8766))),(.sc (.int .i64 (.ofNat 0))),(.sl .full 0 []),(.sl .full 0 []),(.sc (.int .i64 (.ofNat 146))),(.sc (.int .i64 (.ofNat 6))),(Ad []),(Ad []),(.sc (.int .i64 (.ofNat 0))),(.sc (.int .i64 (.ofNat 0))),(.sc (.int .i64 (.ofNat 0))),(.sc (.int .i64 (.ofNat 0))),(.sc (.int .i64 (.ofNat 0))),(.sl .full 0 []),jY,(.sc (.int .i64 (.ofNat 202))),(.sc (.int .i64 (.ofNat 6))),(Ad []),(Ad []),(.sc (.int .i64 (.ofNat 0))),(.sc (.int .i64 (.ofNat 0))),(.sc (.int .i64 (.ofNat 0))),(.sc (.int .i64 (.ofNat 0))),(.sc (.int .i64 (.ofNat 0))),(.sl .full 0 []),wQ,(.sc (.int .i64 (.ofNat 221))),(.sc (.int .i64 (.ofNat 8))),(Ad []),(Ad []),(.sc (.int .i64 (.ofNat 0))),(.sc (.int .i64 (.ofNat 0))),(.sc (.int .i64 (.ofNat 0))),(.sc (.int .i64 (.ofNat 0))),(.sc (.int .i64 (.ofNat 0))),(.sl .full 0 []),X8,(.sc (.int .i64 (.ofNat 234)))]
def rI:BC:=⟨159,[],(some ([k6,(.sc (.int .i64 (.ofNat 38))),(.sc (.int .i64 (.ofNat 336))),(.sc (.int .i64 (.ofNat 0))),(.sc (.int .i64 (.ofNat 0)))],[k6,(.sc (.int .i64 (.ofNat 46))),(.sc (.int .i64 (.ofNat 336))),(.sc (.int .i64 (.ofNat 0))),(.sc (.int .i64 (.ofNat 0)))])),(.agg [(.sc (.int .i64 (.ofNat 5))),(Ad []),(Ad []),(.sc (.int .i64 (.ofNat 0))),(.sc (.int .i64 (.ofNat 8766))),(.sc (.int .i64 (.ofNat 9132))),(.sc (.int .i64 (.ofNat 8766))),(.sc (.int .i64 (.ofNat 0))),(.sl .full 0 []),(.sl .full 0 []),(.sc (.int .i64 (.ofNat 146)))])⟩
theorem Xp:At Tryz.prog Hd.G rI:=Hd.entry (l:=[Xz,aW]) (m:=1000000) (Ag.cons Iy (Ag.cons J7 Hd.none)) (by kernel_rfl) (by kernel_rfl)
def XD:BC:=⟨104,[k9,k2],none,(.sc (.bool true))⟩
theorem Iz:At Tryz.prog Hd.G XD:=Hd.entry (l:=[]) (m:=1000000) Hd.none (by kernel_rfl) (by kernel_rfl)
def rR:BC:=⟨187,[],(some ([k6,(.sc (.int .i64 (.ofNat 48))),(.sc (.int .i64 (.ofNat 336))),(.sc (.int .i64 (.ofNat 0))),(.sc (.int .i64 (.ofNat 0)))],[k6,(.sc (.int .i64 (.ofNat 51))),(.sc (.int .i64 (.ofNat 336))),(.sc (.int .i64 (.ofNat 0))),(.sc (.int .i64 (.ofNat 0)))])),(.agg [(.sc (.int .i64 (.ofNat 16))),(Ad [61,61]),(Ad []),(.sc (.int .i64 (.ofNat 0))),(.sc (.int .i64 (.ofNat 0))),(.sc (.int .i64 (.ofNat 0))),(.sc (.int .i64 (.ofNat 0))),(.sc (.int .i64 (.ofNat 0))),(.sl .full 0 []),ZB,(.sc (.int .i64 (.ofNat 207)))])⟩
theorem W8:At Tryz.prog Hd.G rR:=Hd.entry (l:=[RZ,SS,XD]) (m:=1000000) (Ag.cons FD (Ag.cons F4 (Ag.cons Iz Hd.none))) (by kernel_rfl) (by kernel_rfl)
def rM:BC:=⟨187,[],(some ([k6,(.sc (.int .i64 (.ofNat 53))),(.sc (.int .i64 (.ofNat 336))),(.sc (.int .i64 (.ofNat 0))),(.sc (.int .i64 (.ofNat 0)))],[k6,(.sc (.int .i64 (.ofNat 56))),(.sc (.int .i64 (.ofNat 336))),(.sc (.int .i64 (.ofNat 0))),(.sc (.int .i64 (.ofNat 0)))])),(.agg [(.sc (.int .i64 (.ofNat 16))),(Ad [33,61]),(Ad []),(.sc (.int .i64 (.ofNat 0))),(.sc (.int .i64 (.ofNat 0))),(.sc (.int .i64 (.ofNat 0))),(.sc (.int .i64 (.ofNat 0))),(.sc (.int .i64 (.ofNat 0))),(.sl .full 0 []),kD,(.sc (.int .i64 (.ofNat 226)))])⟩
theorem WB:At Tryz.prog Hd.G rM:=Hd.entry (l:=[RZ,SS,XD]) (m:=1000000) (Ag.cons FD (Ag.cons F4 (Ag.cons Iz Hd.none))) (by kernel_rfl) (by kernel_rfl)
def bZ:BC:=⟨104,[k9,(Ad [97,114,116])],none,(.sc (.bool true))⟩
theorem Kl:At Tryz.prog Hd.G bZ:=Hd.entry (l:=[]) (m:=1000000) Hd.none (by kernel_rfl) (by kernel_rfl)
def qH:BC:=⟨187,[],(some ([k6,(.sc (.int .i64 (.ofNat 58))),(.sc (.int .i64 (.ofNat 336))),(.sc (.int .i64 (.ofNat 0))),(.sc (.int .i64 (.ofNat 0)))],[k6,(.sc (.int .i64 (.ofNat 60))),(.sc (.int .i64 (.ofNat 336))),(.sc (.int .i64 (.ofNat 0))),(.sc (.int .i64 (.ofNat 0)))])),(.agg [(.sc (.int .i64 (.ofNat 13))),(Ad []),(Ad []),(.sc (.int .i64 (.ofNat 3))),(.sc (.int .i64 (.ofNat 0))),(.sc (.int .i64 (.ofNat 0))),(.sc (.int .i64 (.ofNat 0))),(.sc (.int .i64 (.ofNat 0))),(.sl .full 0 []),(.sl .full 0 []),(.sc (.int .i64 (.ofNat 241)))])⟩
theorem WG:At Tryz.prog Hd.G qH:=Hd.entry (l:=[RZ,SS,XD,bZ]) (m:=1000000) (Ag.cons FD (Ag.cons F4 (Ag.cons Iz (Ag.cons Kl Hd.none)))) (by kernel_rfl) (by kernel_rfl)
def tB:BC:=⟨160,[],(some ([k6,(.sc (.int .i64 (.ofNat 46))),(.sc (.int .i64 (.ofNat 336))),(.sc (.int .i64 (.ofNat 0))),(.sc (.int .i64 (.ofNat 0)))],[k6,(.sc (.int .i64 (.ofNat 62))),(.sc (.int .i64 (.ofNat 336))),(.sc (.int .i64 (.ofNat 0))),(.sc (.int .i64 (.ofNat 0)))])),zE⟩
theorem Wj:At Tryz.prog Hd.G tB:=Hd.entry (l:=[pX,pN,rR,rM,qH]) (m:=1000000) (Ag.cons RA (Ag.cons R2 (Ag.cons W8 (Ag.cons WB (Ag.cons WG Hd.none))))) (by kernel_rfl) (by kernel_rfl)
def nS:BC:=⟨117,[],(some ([k6,(.sc (.int .i64 (.ofNat 34))),(.sc (.int .i64 (.ofNat 336))),(.sc (.int .i64 (.ofNat 0))),(.sc (.int .i64 (.ofNat 0)))],[k6,(.sc (.int .i64 (.ofNat 62))),(.sc (.int .i64 (.ofNat 336))),(.sc (.int .i64 (.ofNat 0))),(.sc (.int .i64 (.ofNat 0)))])),(.agg [(.sc (.int .i64 (.ofNat 4))),(Ad [108]),(Ad []),(.sc (.int .i64 (.ofNat 2))),(.sc (.int .i64 (.ofNat 0))),(.sc (.int .i64 (.ofNat 0))),(.sc (.int .i64 (.ofNat 0))),(.sc (.int .i64 (.ofNat 0))),(.sl .full 0 []),tR,(.sc (.int .i64 (.ofNat 130)))])⟩
theorem Yc:At Tryz.prog Hd.G nS:=Hd.entry (l:=[RZ,SS,Xz,p6,pT,aW,rI,XD,bZ,tB]) (m:=1000000) (Ag.cons FD (Ag.cons F4 (Ag.cons Iy (Ag.cons RI (Ag.cons Sj (Ag.cons J7 (Ag.cons Xp (Ag.cons Iz (Ag.cons Kl (Ag.cons Wj Hd.none)))))))))) (by kernel_rfl) (by kernel_rfl)
def Uu:BC:=⟨199,[k5],none,(.Bh [(.sc (.int .i64 (.ofNat 8797))),(.sc (.int .i64 (.ofNat 0)))])⟩
theorem KC:At Tryz.prog Hd.G Uu:=Hd.entry (l:=[]) (m:=1000000) Hd.none (by kernel_rfl) (by kernel_rfl)
def nY:BC:=⟨159,[],(some ([k6,(.sc (.int .i64 (.ofNat 66))),(.sc (.int .i64 (.ofNat 336))),(.sc (.int .i64 (.ofNat 0))),(.sc (.int .i64 (.ofNat 0)))],[k6,(.sc (.int .i64 (.ofNat 72))),(.sc (.int .i64 (.ofNat 336))),(.sc (.int .i64 (.ofNat 0))),(.sc (.int .i64 (.ofNat 0)))])),(.agg [(.sc (.int .i64 (.ofNat 5))),(Ad []),(Ad []),(.sc (.int .i64 (.ofNat 0))),(.sc (.int .i64 (.ofNat 8766))),(.sc (.int .i64 (.ofNat 36525))),(.sc (.int .i64 (.ofNat 8797))),(.sc (.int .i64 (.ofNat 0))),(.sl .full 0 []),(.sl .full 0 []),(.sc (.int .i64 (.ofNat 266)))])⟩
theorem XZ:At Tryz.prog Hd.G nY:=Hd.entry (l:=[Xz,aW,Uu]) (m:=1000000) (Ag.cons Iy (Ag.cons J7 (Ag.cons KC Hd.none))) (by kernel_rfl) (by kernel_rfl)
def lG:BC:=⟨187,[],(some ([k6,(.sc (.int .i64 (.ofNat 77))),(.sc (.int .i64 (.ofNat 336))),(.sc (.int .i64 (.ofNat 0))),(.sc (.int .i64 (.ofNat 0)))],[k6,(.sc (.int .i64 (.ofNat 79))),(.sc (.int .i64 (.ofNat 336))),(.sc (.int .i64 (.ofNat 0))),(.sc (.int .i64 (.ofNat 0)))])),(.agg [(.sc (.int .i64 (.ofNat 11))),(Ad []),(Ad [69,85,82]),(.sc (.int .i64 (.ofNat 0))),(.sc (.int .i64 (.ofNat 0))),(.sc (.int .i64 (.ofNat 0))),(.sc (.int .i64 (.ofNat 0))),(.sc (.int .i64 (.ofNat 0))),(.sl .full 0 []),(.sl .full 0 []),(.sc (.int .i64 (.ofNat 325)))])⟩
theorem XR:At Tryz.prog Hd.G lG:=Hd.entry (l:=[RZ,SS,XD,bZ]) (m:=1000000) (Ag.cons FD (Ag.cons F4 (Ag.cons Iz (Ag.cons Kl Hd.none)))) (by kernel_rfl) (by kernel_rfl)
end Go.Proofs.YtnijkdknnmgoeaaGreat
namespace Go.Proofs.YtnijkdknnmgoeaaGreat
open AI
set_option maxRecDepth 100000
set_option maxHeartbeats 4000000
def uP:AV:=.sl .lost 1 [(.sc (.int .i64 (.ofNat 11))),(Ad []),(Ad [110,117,109,98,101,114]),(.sc (.int .i64 (.ofNat 1))),(.sc (.int .i64 (.ofNat 0))),(.sc (.int .i64 (.ofNat 0))),(.sc (.int .i64 (.ofNat 0))),(.sc (.int .i64 (.ofNat 0))),(.sl .full 0 []),(.sl .full 0 []),(.sc (.int .i64 (.ofNat 315)))]
def vR:AV:=.sl .full 1 [(.sc (.int .i64 (.ofNat 11))),(Ad []),(Ad [69,85,82]),(.sc (.int .i64 (.ofNat 0))),(.sc (.int .i64 (.ofNat 0))),(.sc (.int .i64 (.ofNat 0))),(.sc (.int .i64 (.ofNat 0))),(.sc (.int .i64 (.ofNat 0))),(.sl .full 0 []),(.sl .full 0 []),(.sc (.int .i64 (.ofNat 325)))]
def zL:AV:=.sl .lost 2 [(.sc (.int .i64 (.ofNat 7))),(Ad []),(Ad []),(.sc (.int .i64 (.ofNat 0))),(.sc (.int .i64 (.ofNat 0))),(.sc (.int .i64 (.ofNat 0))),(.sc (.int .i64 (.ofNat 0))),(.sc (.int .i64 (.ofNat 0))),(.sl .full 0 []),uP,(.sc (.int .i64 (.ofNat 308))),(.sc (.int .i64 (.ofNat 8))),(Ad []),(Ad []),(.sc (.int .i64 (.ofNat 0))),(.sc (.int .i64 (.ofNat 0))),(.sc (.int .i64 (.ofNat 0))),(.sc (.int .i64 (.ofNat 0))),(.sc (.int .i64 (.ofNat 0))),(.sl .full 0 []),vR,(.sc (.int .i64 (.ofNat 318)))]
def qQ:AV:=.sl .lost 3 [(.sc (.int .i64 (.ofNat 5))),(Ad []),(Ad []),(.sc (.int .i64 (.ofNat 0))),(.sc (.int .i64 (.ofNat 8766))),(.sc (.int .i64 (.ofNat 36525))),(.sc (.int .i64 (.ofNat 8797))),(.sc (.int .i64 (.ofNat 0))),(.sl .full 0 []),(.sl .full 0 []),(.sc (.int .i64 (.ofNat 266))),(.sc (.int .i64 (.ofNat 7))),(Ad []),(Ad []),(.sc (.int .i64 (.ofNat 0))),(.sc (.int .i64 (.ofNat 0))),(.sc (.int .i64 (.ofNat 0))),(.sc (.int .i64 (.ofNat 0))),(.sc (.int .i64 (.ofNat 0))),(.sl .full 0 []),uP,(.sc (.int .i64 (.ofNat 308))),(.sc (.int .i64 (.ofNat 8))),(Ad []),(Ad []),(.sc (.int .i64 (.ofNat 0))),(.sc (.int .i64 (.ofNat 0))),(.sc (.int .i64 (.ofNat 0))),(.sc (.int .i64 (.ofNat 0))),(.sc (.int .i64 (.ofNat 0))),(.sl .full 0 []),vR,(.sc (.int .i64 (.ofNat 318)))]
def p4:AV:=.sl .lost 5 [(.sc (.int .i64 (.ofNat 2))),(Ad [97]),(Ad [110,117,109,98,101,114]),(.sc (.int .i64 (.ofNat 0))),(.sc (.int .i64 (.ofNat 0))),(.sc (.int .i64 (.ofNat 0))),(.sc (.int .i64 (.ofNat 0))),(.sc (.int .i64 (.ofNat 0))),(.sl .full 0 []),(.sl .full 0 []),(.sc (.int .i64 (.ofNat 0))),(.sc (.int .i64 (.ofNat 3))),(Ad [108]),(Ad [69,85,82]),(.sc (.int .i64 (.ofNat 1))),(.sc (.int .i64 (.ofNat 0))),(.sc (.int .i64 (.ofNat 0))),(.sc (.int .i64 (.ofNat 0))),(.sc (.int .i64 (.ofNat 0))),(.sl .full 0 []),(.sl .full 0 []),(.sc (.int .i64 (.ofNat 17))),(.sc (.int .i64 (.ofNat 4))),(Ad [108]),(Ad []),(.sc (.int .i64 (.ofNat 1))),(.sc (.int .i64 (.ofNat 0))),(.sc (.int .i64 (.ofNat 0))),(.sc (.int .i64 (.ofNat 0))),(.sc (.int .i64 (.ofNat 0))),(.sl .full 0 []),iS,(.sc (.int .i64 (.ofNat 36))),(.sc (.int .i64 (.ofNat 4))),(Ad [108]),(Ad []),(.sc (.int .i64 (.ofNat 2))),(.sc (.int .i64 (.ofNat 0))),(.sc (.int .i64 (.ofNat 0))),(.sc (.int .i64 (.ofNat 0))),(.sc (.int .i64 (.ofNat 0))),(.sl .full 0 []),tR,(.sc (.int .i64 (.ofNat 130))),(.sc (.int .i64 (.ofNat 4))),(Ad [108]),(Ad []),(.sc (.int .i64 (.ofNat 3))),(.sc (.int .i64 (.ofNat 0))),(.sc (.int .i64 (.ofNat 0))),(.sc (.int .i64 (.ofNat 0))),(.sc (.int .i64 (.ofNat 0))),(.sl .full 0 []),qQ,(.sc (.int .i64 (.ofNat 250)))]
def ND:AV:=Ad [108,105,110,101,32,108,32,58,32,69,85,82,32,101,97,114,110,59,32,97,114,116,105,99,108,101,32,49,32,102,111,114,32,108,32,114,97,110,107,32,48,32,102,114,111,109,32,50,48,50,52,45,48,49,45,48,49,32,107,110,111,119,110,32,50,48,50,52,45,48,49,45,48,49,32,123,32,97,109,111,117,110,116,32,49,59,32,125]
def Xa:AV:=.sl .lost 21 [(.sc (.int .i64 (.ofNat 1))),(Ad [108,105,110,101]),(.sc (.int .i64 (.ofNat 0))),(.sc (.int .i64 (.ofNat 1))),(Ad [108]),(.sc (.int .i64 (.ofNat 5))),(.sc (.int .i64 (.ofNat 6))),(Ad [58]),(.sc (.int .i64 (.ofNat 7))),(.sc (.int .i64 (.ofNat 2))),(Ad [69,85,82]),(.sc (.int .i64 (.ofNat 9))),(.sc (.int .i64 (.ofNat 1))),(Ad [101,97,114,110]),(.sc (.int .i64 (.ofNat 13))),(.sc (.int .i64 (.ofNat 6))),(Ad [59]),(.sc (.int .i64 (.ofNat 17))),(.sc (.int .i64 (.ofNat 1))),k3,(.sc (.int .i64 (.ofNat 19))),(.sc (.int .i64 (.ofNat 3))),(Ad [49]),(.sc (.int .i64 (.ofNat 27))),(.sc (.int .i64 (.ofNat 1))),(Ad [102,111,114]),(.sc (.int .i64 (.ofNat 29))),(.sc (.int .i64 (.ofNat 1))),(Ad [108]),(.sc (.int .i64 (.ofNat 33))),(.sc (.int .i64 (.ofNat 1))),(Ad [114,97,110,107]),(.sc (.int .i64 (.ofNat 35))),(.sc (.int .i64 (.ofNat 3))),(Ad [48]),(.sc (.int .i64 (.ofNat 40))),(.sc (.int .i64 (.ofNat 1))),(Ad [102,114,111,109]),(.sc (.int .i64 (.ofNat 42))),(.sc (.int .i64 (.ofNat 5))),k1,(.sc (.int .i64 (.ofNat 47))),(.sc (.int .i64 (.ofNat 1))),(Ad [107,110,111,119,110]),(.sc (.int .i64 (.ofNat 58))),(.sc (.int .i64 (.ofNat 5))),k1,(.sc (.int .i64 (.ofNat 64))),(.sc (.int .i64 (.ofNat 6))),(Ad [123]),(.sc (.int .i64 (.ofNat 75))),(.sc (.int .i64 (.ofNat 1))),(Ad [97,109,111,117,110,116]),(.sc (.int .i64 (.ofNat 77))),(.sc (.int .i64 (.ofNat 3))),(Ad [49]),(.sc (.int .i64 (.ofNat 84))),(.sc (.int .i64 (.ofNat 6))),(Ad [59]),(.sc (.int .i64 (.ofNat 85))),(.sc (.int .i64 (.ofNat 6))),(Ad [125]),(.sc (.int .i64 (.ofNat 87)))]
def v8:AV:=.sl .full 1 [(.sc (.int .i64 (.ofNat 11))),(Ad []),(Ad [110,117,109,98,101,114]),(.sc (.int .i64 (.ofNat 1))),(.sc (.int .i64 (.ofNat 0))),(.sc (.int .i64 (.ofNat 0))),(.sc (.int .i64 (.ofNat 0))),(.sc (.int .i64 (.ofNat 0))),(.sl .full 0 []),(.sl .full 0 []),(.sc (.int .i64 (.ofNat 84)))]
def xU:AV:=.sl .lost 1 [(.sc (.int .i64 (.ofNat 8))),(Ad []),(Ad []),(.sc (.int .i64 (.ofNat 0))),(.sc (.int .i64 (.ofNat 0))),(.sc (.int .i64 (.ofNat 0))),(.sc (.int .i64 (.ofNat 0))),(.sc (.int .i64 (.ofNat 0))),(.sl .full 0 []),v8,(.sc (.int .i64 (.ofNat 77)))]
def qA:AV:=.sl .lost 2 [(.sc (.int .i64 (.ofNat 5))),(Ad []),(Ad []),(.sc (.int .i64 (.ofNat 0))),(.sc (.int .i64 (.ofNat 8766))),(.sc (.int .i64 (.ofNat 36525))),(.sc (.int .i64 (.ofNat 8766))),(.sc (.int .i64 (.ofNat 0))),(.sl .full 0 []),(.sl .full 0 []),(.sc (.int .i64 (.ofNat 35))),(.sc (.int .i64 (.ofNat 8))),(Ad []),(Ad []),(.sc (.int .i64 (.ofNat 0))),(.sc (.int .i64 (.ofNat 0))),(.sc (.int .i64 (.ofNat 0))),(.sc (.int .i64 (.ofNat 0))),(.sc (.int .i64 (.ofNat 0))),(.sl .full 0 []),v8,(.sc (.int .i64 (.ofNat 77)))]
def lH:BC:=⟨160,[],(some ([k6,(.sc (.int .i64 (.ofNat 72))),(.sc (.int .i64 (.ofNat 336))),(.sc (.int .i64 (.ofNat 0))),(.sc (.int .i64 (.ofNat 0)))],[k6,(.sc (.int .i64 (.ofNat 81))),(.sc (.int .i64 (.ofNat 336))),(.sc (.int .i64 (.ofNat 0))),(.sc (.int .i64 (.ofNat 0)))])),zL⟩
theorem X2:At Tryz.prog Hd.G lH:=Hd.entry (l:=[pX,pN,rR,rM,qH,lG]) (m:=1000000) (Ag.cons RA (Ag.cons R2 (Ag.cons W8 (Ag.cons WB (Ag.cons WG (Ag.cons XR Hd.none)))))) (by kernel_rfl) (by kernel_rfl)
def nQ:BC:=⟨117,[],(some ([k6,(.sc (.int .i64 (.ofNat 62))),(.sc (.int .i64 (.ofNat 336))),(.sc (.int .i64 (.ofNat 0))),(.sc (.int .i64 (.ofNat 0)))],[k6,(.sc (.int .i64 (.ofNat 81))),(.sc (.int .i64 (.ofNat 336))),(.sc (.int .i64 (.ofNat 0))),(.sc (.int .i64 (.ofNat 0)))])),(.agg [(.sc (.int .i64 (.ofNat 4))),(Ad [108]),(Ad []),(.sc (.int .i64 (.ofNat 3))),(.sc (.int .i64 (.ofNat 0))),(.sc (.int .i64 (.ofNat 0))),(.sc (.int .i64 (.ofNat 0))),(.sc (.int .i64 (.ofNat 0))),(.sl .full 0 []),qQ,(.sc (.int .i64 (.ofNat 250)))])⟩
theorem Ye:At Tryz.prog Hd.G nQ:=Hd.entry (l:=[RZ,SS,Xz,p6,pT,aW,rI,XD,bZ,tB,Uu,nY,lH]) (m:=1000000) (Ag.cons FD (Ag.cons F4 (Ag.cons Iy (Ag.cons RI (Ag.cons Sj (Ag.cons J7 (Ag.cons Xp (Ag.cons Iz (Ag.cons Kl (Ag.cons Wj (Ag.cons KC (Ag.cons XZ (Ag.cons X2 Hd.none))))))))))))) (by kernel_rfl) (by kernel_rfl)
def nD:BC:=⟨72,[k0],none,(.Bh [(.agg [(.sc (.int .i64 (.ofNat 1))),(Ad []),(Ad []),(.sc (.int .i64 (.ofNat 0))),(.sc (.int .i64 (.ofNat 0))),(.sc (.int .i64 (.ofNat 0))),(.sc (.int .i64 (.ofNat 0))),(.sc (.int .i64 (.ofNat 0))),(.sl .full 0 []),p4,(.sc (.int .i64 (.ofNat 0)))]),(.sl .full 0 [])])⟩
theorem YW:At Tryz.prog Hd.G nD:=Hd.entry (l:=[vC,w8,vF,vB,nS,nQ]) (m:=1000000) (Ag.cons dV (Ag.cons c8 (Ag.cons fN (Ag.cons iA (Ag.cons Yc (Ag.cons Ye Hd.none)))))) (by kernel_rfl) (by kernel_rfl)
def nI:BC:=⟨152,[ND,(.sc (.int .i64 (.ofNat 0)))],none,(.Bh [(.agg [(.sc (.int .i64 (.ofNat 1))),(Ad [108,105,110,101]),(.sc (.int .i64 (.ofNat 0)))]),(.sc (.bool true))])⟩
theorem YK:At Tryz.prog Hd.G nI:=Hd.entry (l:=[]) (m:=1000000) Hd.none (by kernel_rfl) (by kernel_rfl)
def lF:BC:=⟨152,[ND,(.sc (.int .i64 (.ofNat 13)))],none,(.Bh [(.agg [(.sc (.int .i64 (.ofNat 1))),(Ad [101,97,114,110]),(.sc (.int .i64 (.ofNat 13)))]),(.sc (.bool true))])⟩
theorem ZC:At Tryz.prog Hd.G lF:=Hd.entry (l:=[]) (m:=1000000) Hd.none (by kernel_rfl) (by kernel_rfl)
def lA:BC:=⟨152,[ND,(.sc (.int .i64 (.ofNat 29)))],none,(.Bh [(.agg [(.sc (.int .i64 (.ofNat 1))),(Ad [102,111,114]),(.sc (.int .i64 (.ofNat 29)))]),(.sc (.bool true))])⟩
theorem ZS:At Tryz.prog Hd.G lA:=Hd.entry (l:=[]) (m:=1000000) Hd.none (by kernel_rfl) (by kernel_rfl)
def lW:BC:=⟨152,[ND,(.sc (.int .i64 (.ofNat 42)))],none,(.Bh [(.agg [(.sc (.int .i64 (.ofNat 1))),(Ad [102,114,111,109]),(.sc (.int .i64 (.ofNat 42)))]),(.sc (.bool true))])⟩
theorem YN:At Tryz.prog Hd.G lW:=Hd.entry (l:=[]) (m:=1000000) Hd.none (by kernel_rfl) (by kernel_rfl)
def mD:BC:=⟨152,[ND,(.sc (.int .i64 (.ofNat 75)))],none,(.Bh [(.agg [(.sc (.int .i64 (.ofNat 6))),(Ad [123]),(.sc (.int .i64 (.ofNat 75)))]),(.sc (.bool true))])⟩
theorem XH:At Tryz.prog Hd.G mD:=Hd.entry (l:=[]) (m:=1000000) Hd.none (by kernel_rfl) (by kernel_rfl)
def kV:BC:=⟨152,[ND,(.sc (.int .i64 (.ofNat 87)))],none,(.Bh [(.agg [(.sc (.int .i64 (.ofNat 6))),(Ad [125]),(.sc (.int .i64 (.ofNat 87)))]),(.sc (.bool true))])⟩
theorem ZY:At Tryz.prog Hd.G kV:=Hd.entry (l:=[]) (m:=1000000) Hd.none (by kernel_rfl) (by kernel_rfl)
def mC:BC:=⟨152,[ND,(.sc (.int .i64 (.ofNat 5)))],none,(.Bh [(.agg [(.sc (.int .i64 (.ofNat 1))),(Ad [108]),(.sc (.int .i64 (.ofNat 5)))]),(.sc (.bool true))])⟩
theorem Y6:At Tryz.prog Hd.G mC:=Hd.entry (l:=[]) (m:=1000000) Hd.none (by kernel_rfl) (by kernel_rfl)
def kK:BC:=⟨152,[ND,(.sc (.int .i64 (.ofNat 17)))],none,(.Bh [(.agg [(.sc (.int .i64 (.ofNat 6))),(Ad [59]),(.sc (.int .i64 (.ofNat 17)))]),(.sc (.bool true))])⟩
theorem XG:At Tryz.prog Hd.G kK:=Hd.entry (l:=[]) (m:=1000000) Hd.none (by kernel_rfl) (by kernel_rfl)
def lK:BC:=⟨152,[ND,(.sc (.int .i64 (.ofNat 33)))],none,(.Bh [(.agg [(.sc (.int .i64 (.ofNat 1))),(Ad [108]),(.sc (.int .i64 (.ofNat 33)))]),(.sc (.bool true))])⟩
theorem XN:At Tryz.prog Hd.G lK:=Hd.entry (l:=[]) (m:=1000000) Hd.none (by kernel_rfl) (by kernel_rfl)
def nG:BC:=⟨152,[ND,(.sc (.int .i64 (.ofNat 47)))],none,(.Bh [(.agg [(.sc (.int .i64 (.ofNat 5))),k1,(.sc (.int .i64 (.ofNat 47)))]),(.sc (.bool true))])⟩
theorem Ys:At Tryz.prog Hd.G nG:=Hd.entry (l:=[]) (m:=1000000) Hd.none (by kernel_rfl) (by kernel_rfl)
def oA:BC:=⟨152,[ND,(.sc (.int .i64 (.ofNat 77)))],none,(.Bh [(.agg [(.sc (.int .i64 (.ofNat 1))),(Ad [97,109,111,117,110,116]),(.sc (.int .i64 (.ofNat 77)))]),(.sc (.bool true))])⟩
theorem X3:At Tryz.prog Hd.G oA:=Hd.entry (l:=[]) (m:=1000000) Hd.none (by kernel_rfl) (by kernel_rfl)
def oN:BC:=⟨152,[ND,(.sc (.int .i64 (.ofNat 7)))],none,(.Bh [(.agg [(.sc (.int .i64 (.ofNat 6))),(Ad [58]),(.sc (.int .i64 (.ofNat 7)))]),(.sc (.bool true))])⟩
theorem Za:At Tryz.prog Hd.G oN:=Hd.entry (l:=[]) (m:=1000000) Hd.none (by kernel_rfl) (by kernel_rfl)
def mJ:BC:=⟨152,[ND,(.sc (.int .i64 (.ofNat 19)))],none,(.Bh [(.agg [(.sc (.int .i64 (.ofNat 1))),k3,(.sc (.int .i64 (.ofNat 19)))]),(.sc (.bool true))])⟩
theorem XW:At Tryz.prog Hd.G mJ:=Hd.entry (l:=[]) (m:=1000000) Hd.none (by kernel_rfl) (by kernel_rfl)
def nJ:BC:=⟨152,[ND,(.sc (.int .i64 (.ofNat 35)))],none,(.Bh [(.agg [(.sc (.int .i64 (.ofNat 1))),(Ad [114,97,110,107]),(.sc (.int .i64 (.ofNat 35)))]),(.sc (.bool true))])⟩
theorem Yg:At Tryz.prog Hd.G nJ:=Hd.entry (l:=[]) (m:=1000000) Hd.none (by kernel_rfl) (by kernel_rfl)
def kM:BC:=⟨152,[ND,(.sc (.int .i64 (.ofNat 58)))],none,(.Bh [(.agg [(.sc (.int .i64 (.ofNat 1))),(Ad [107,110,111,119,110]),(.sc (.int .i64 (.ofNat 58)))]),(.sc (.bool true))])⟩
theorem YY:At Tryz.prog Hd.G kM:=Hd.entry (l:=[]) (m:=1000000) Hd.none (by kernel_rfl) (by kernel_rfl)
def mL:BC:=⟨152,[ND,(.sc (.int .i64 (.ofNat 84)))],none,(.Bh [(.agg [(.sc (.int .i64 (.ofNat 3))),(Ad [49]),(.sc (.int .i64 (.ofNat 84)))]),(.sc (.bool true))])⟩
theorem YI:At Tryz.prog Hd.G mL:=Hd.entry (l:=[]) (m:=1000000) Hd.none (by kernel_rfl) (by kernel_rfl)
def pA:BC:=⟨152,[ND,(.sc (.int .i64 (.ofNat 9)))],none,(.Bh [(.agg [(.sc (.int .i64 (.ofNat 2))),(Ad [69,85,82]),(.sc (.int .i64 (.ofNat 9)))]),(.sc (.bool true))])⟩
theorem Yn:At Tryz.prog Hd.G pA:=Hd.entry (l:=[]) (m:=1000000) Hd.none (by kernel_rfl) (by kernel_rfl)
def oS:BC:=⟨152,[ND,(.sc (.int .i64 (.ofNat 27)))],none,(.Bh [(.agg [(.sc (.int .i64 (.ofNat 3))),(Ad [49]),(.sc (.int .i64 (.ofNat 27)))]),(.sc (.bool true))])⟩
theorem XI:At Tryz.prog Hd.G oS:=Hd.entry (l:=[]) (m:=1000000) Hd.none (by kernel_rfl) (by kernel_rfl)
def m4:BC:=⟨152,[ND,(.sc (.int .i64 (.ofNat 40)))],none,(.Bh [(.agg [(.sc (.int .i64 (.ofNat 3))),(Ad [48]),(.sc (.int .i64 (.ofNat 40)))]),(.sc (.bool true))])⟩
theorem Ym:At Tryz.prog Hd.G m4:=Hd.entry (l:=[]) (m:=1000000) Hd.none (by kernel_rfl) (by kernel_rfl)
def lC:BC:=⟨152,[ND,(.sc (.int .i64 (.ofNat 64)))],none,(.Bh [(.agg [(.sc (.int .i64 (.ofNat 5))),k1,(.sc (.int .i64 (.ofNat 64)))]),(.sc (.bool true))])⟩
theorem Z1:At Tryz.prog Hd.G lC:=Hd.entry (l:=[]) (m:=1000000) Hd.none (by kernel_rfl) (by kernel_rfl)
def pL:BC:=⟨152,[ND,(.sc (.int .i64 (.ofNat 85)))],none,(.Bh [(.agg [(.sc (.int .i64 (.ofNat 6))),(Ad [59]),(.sc (.int .i64 (.ofNat 85)))]),(.sc (.bool true))])⟩
theorem Z5:At Tryz.prog Hd.G pL:=Hd.entry (l:=[]) (m:=1000000) Hd.none (by kernel_rfl) (by kernel_rfl)
def kO:BC:=⟨115,[ND],none,(.Bh [Xa,(.sc (.int .i64 (.ofNat 0))),(.sc (.int .i64 (.ofNat 0)))])⟩
theorem Yr:At Tryz.prog Hd.G kO:=Hd.entry (l:=[nI,lF,lA,lW,mD,kV,mC,kK,lK,nG,oA,oN,mJ,nJ,kM,mL,pA,oS,m4,lC,pL]) (m:=1000000) (Ag.cons YK (Ag.cons ZC (Ag.cons ZS (Ag.cons YN (Ag.cons XH (Ag.cons ZY (Ag.cons Y6 (Ag.cons XG (Ag.cons XN (Ag.cons Ys (Ag.cons X3 (Ag.cons Za (Ag.cons XW (Ag.cons Yg (Ag.cons YY (Ag.cons YI (Ag.cons Yn (Ag.cons XI (Ag.cons Ym (Ag.cons Z1 (Ag.cons Z5 Hd.none))))))))))))))))))))) (by kernel_rfl) (by kernel_rfl)
def nH:BC:=⟨117,[],(some ([Xa,(.sc (.int .i64 (.ofNat 0))),(.sc (.int .i64 (.ofNat 88))),(.sc (.int .i64 (.ofNat 0))),(.sc (.int .i64 (.ofNat 0)))],[Xa,(.sc (.int .i64 (.ofNat 6))),(.sc (.int .i64 (.ofNat 88))),(.sc (.int .i64 (.ofNat 0))),(.sc (.int .i64 (.ofNat 0)))])),(.agg [(.sc (.int .i64 (.ofNat 3))),(Ad [108]),(Ad [69,85,82]),(.sc (.int .i64 (.ofNat 1))),(.sc (.int .i64 (.ofNat 0))),(.sc (.int .i64 (.ofNat 0))),(.sc (.int .i64 (.ofNat 0))),(.sc (.int .i64 (.ofNat 0))),(.sl .full 0 []),(.sl .full 0 []),(.sc (.int .i64 (.ofNat 0)))])⟩
theorem ZI:At Tryz.prog Hd.G nH:=Hd.entry (l:=[RZ,SS,Xz,aW,XD,bZ,Uu]) (m:=1000000) (Ag.cons FD (Ag.cons F4 (Ag.cons Iy (Ag.cons J7 (Ag.cons Iz (Ag.cons Kl (Ag.cons KC Hd.none))))))) (by kernel_rfl) (by kernel_rfl)
def n7:BC:=⟨159,[],(some ([Xa,(.sc (.int .i64 (.ofNat 10))),(.sc (.int .i64 (.ofNat 88))),(.sc (.int .i64 (.ofNat 0))),(.sc (.int .i64 (.ofNat 0)))],[Xa,(.sc (.int .i64 (.ofNat 16))),(.sc (.int .i64 (.ofNat 88))),(.sc (.int .i64 (.ofNat 0))),(.sc (.int .i64 (.ofNat 0)))])),(.agg [(.sc (.int .i64 (.ofNat 5))),(Ad []),(Ad []),(.sc (.int .i64 (.ofNat 0))),(.sc (.int .i64 (.ofNat 8766))),(.sc (.int .i64 (.ofNat 36525))),(.sc (.int .i64 (.ofNat 8766))),(.sc (.int .i64 (.ofNat 0))),(.sl .full 0 []),(.sl .full 0 []),(.sc (.int .i64 (.ofNat 35)))])⟩
theorem YL:At Tryz.prog Hd.G n7:=Hd.entry (l:=[Xz,aW,Uu]) (m:=1000000) (Ag.cons Iy (Ag.cons J7 (Ag.cons KC Hd.none))) (by kernel_rfl) (by kernel_rfl)
def kT:BC:=⟨187,[],(some ([Xa,(.sc (.int .i64 (.ofNat 18))),(.sc (.int .i64 (.ofNat 88))),(.sc (.int .i64 (.ofNat 0))),(.sc (.int .i64 (.ofNat 0)))],[Xa,(.sc (.int .i64 (.ofNat 19))),(.sc (.int .i64 (.ofNat 88))),(.sc (.int .i64 (.ofNat 0))),(.sc (.int .i64 (.ofNat 0)))])),(.agg [(.sc (.int .i64 (.ofNat 11))),(Ad []),(Ad [110,117,109,98,101,114]),(.sc (.int .i64 (.ofNat 1))),(.sc (.int .i64 (.ofNat 0))),(.sc (.int .i64 (.ofNat 0))),(.sc (.int .i64 (.ofNat 0))),(.sc (.int .i64 (.ofNat 0))),(.sl .full 0 []),(.sl .full 0 []),(.sc (.int .i64 (.ofNat 84)))])⟩
theorem Zh:At Tryz.prog Hd.G kT:=Hd.entry (l:=[RZ,SS,XD,bZ]) (m:=1000000) (Ag.cons FD (Ag.cons F4 (Ag.cons Iz (Ag.cons Kl Hd.none)))) (by kernel_rfl) (by kernel_rfl)
def m1:BC:=⟨160,[],(some ([Xa,(.sc (.int .i64 (.ofNat 16))),(.sc (.int .i64 (.ofNat 88))),(.sc (.int .i64 (.ofNat 0))),(.sc (.int .i64 (.ofNat 0)))],[Xa,(.sc (.int .i64 (.ofNat 21))),(.sc (.int .i64 (.ofNat 88))),(.sc (.int .i64 (.ofNat 0))),(.sc (.int .i64 (.ofNat 0)))])),xU⟩
theorem Y3:At Tryz.prog Hd.G m1:=Hd.entry (l:=[kT]) (m:=1000000) (Ag.cons Zh Hd.none) (by kernel_rfl) (by kernel_rfl)
def mR:BC:=⟨117,[],(some ([Xa,(.sc (.int .i64 (.ofNat 6))),(.sc (.int .i64 (.ofNat 88))),(.sc (.int .i64 (.ofNat 0))),(.sc (.int .i64 (.ofNat 0)))],[Xa,(.sc (.int .i64 (.ofNat 21))),(.sc (.int .i64 (.ofNat 88))),(.sc (.int .i64 (.ofNat 0))),(.sc (.int .i64 (.ofNat 0)))])),(.agg [(.sc (.int .i64 (.ofNat 4))),(Ad [108]),(Ad []),(.sc (.int .i64 (.ofNat 1))),(.sc (.int .i64 (.ofNat 0))),(.sc (.int .i64 (.ofNat 0))),(.sc (.int .i64 (.ofNat 0))),(.sc (.int .i64 (.ofNat 0))),(.sl .full 0 []),qA,(.sc (.int .i64 (.ofNat 19)))])⟩
theorem ZJ:At Tryz.prog Hd.G mR:=Hd.entry (l:=[RZ,SS,Xz,aW,XD,bZ,Uu,n7,m1]) (m:=1000000) (Ag.cons FD (Ag.cons F4 (Ag.cons Iy (Ag.cons J7 (Ag.cons Iz (Ag.cons Kl (Ag.cons KC (Ag.cons YL (Ag.cons Y3 Hd.none))))))))) (by kernel_rfl) (by kernel_rfl)
end Go.Proofs.YtnijkdknnmgoeaaGreat
namespace Go.Proofs.YtnijkdknnmgoeaaGreat
open AI
set_option maxRecDepth 100000
set_option maxHeartbeats 4000000
def pO:AV:=.sl .lost 2 [(.sc (.int .i64 (.ofNat 3))),(Ad [108]),(Ad [69,85,82]),(.sc (.int .i64 (.ofNat 1))),(.sc (.int .i64 (.ofNat 0))),(.sc (.int .i64 (.ofNat 0))),(.sc (.int .i64 (.ofNat 0))),(.sc (.int .i64 (.ofNat 0))),(.sl .full 0 []),(.sl .full 0 []),(.sc (.int .i64 (.ofNat 0))),(.sc (.int .i64 (.ofNat 4))),(Ad [108]),(Ad []),(.sc (.int .i64 (.ofNat 1))),(.sc (.int .i64 (.ofNat 0))),(.sc (.int .i64 (.ofNat 0))),(.sc (.int .i64 (.ofNat 0))),(.sc (.int .i64 (.ofNat 0))),(.sl .full 0 []),qA,(.sc (.int .i64 (.ofNat 19)))]
def rJ:AV:=.sl .lost 2 [(.sc (.int .i64 (.ofNat 2))),(.sc (.int .i64 (.ofNat 0))),(Ad [110,117,109,98,101,114]),(.sc (.int .i64 (.ofNat 0))),(.sl .full 0 []),(.sl .full 0 []),(.sc (.int .i64 (.ofNat 1))),(.sc (.int .i64 (.ofNat 3))),(Ad [110,117,109,98,101,114]),(.sc (.int .i64 (.ofNat 0))),(.sl .full 0 []),(.sl .full 0 [])]
def zB:AV:=.sl .lost 2 [(.sc (.int .i64 (.ofNat 1))),(.sc (.int .i64 (.ofNat 100))),(Ad [69,85,82]),(.sc (.int .i64 (.ofNat 0))),(.sl .full 0 []),(.sl .full 0 []),(.sc (.int .i64 (.ofNat 2))),(.sc (.int .i64 (.ofNat 0))),(Ad [110,117,109,98,101,114]),(.sc (.int .i64 (.ofNat 0))),(.sl .full 0 []),(.sl .full 0 [])]
def yH:AV:=.sl .lost 2 [(.sc (.int .i64 (.ofNat 4))),(.sc (.int .i64 (.ofNat 1))),(Ad [110,117,109,98,101,114]),(.sc (.int .i64 (.ofNat 0))),(.sl .full 0 []),(.sl .full 0 []),(.sc (.int .i64 (.ofNat 1))),(.sc (.int .i64 (.ofNat 1))),(Ad [110,117,109,98,101,114]),(.sc (.int .i64 (.ofNat 0))),(.sl .full 0 []),(.sl .full 0 [])]
def yG:AV:=.sl .lost 2 [(.sc (.int .i64 (.ofNat 8))),(.sc (.int .i64 (.ofNat 0))),(Ad [116,114,117,116,104]),(.sc (.int .i64 (.ofNat 0))),(.sl .full 0 []),yH,(.sc (.int .i64 (.ofNat 5))),(.sc (.int .i64 (.ofNat 0))),(Ad [116,114,117,116,104]),(.sc (.int .i64 (.ofNat 0))),(.sl .full 0 []),(.sl .full 1 [(.sc (.int .i64 (.ofNat 8))),(.sc (.int .i64 (.ofNat 0))),(Ad [116,114,117,116,104]),(.sc (.int .i64 (.ofNat 0))),(.sl .full 0 []),rJ])]
def Ou:AV:=.sl .lost 3 [(.sc (.int .i64 (.ofNat 1))),(.sc (.int .i64 (.ofNat 0))),(.sc (.int .i64 (.ofNat 0))),(.sc (.int .i64 (.ofNat 8766))),(.sc (.int .i64 (.ofNat 36525))),(.sc (.int .i64 (.ofNat 8766))),(.sl .lost 1 [(.sc (.int .i64 (.ofNat 5))),(.sc (.int .i64 (.ofNat 0))),(Ad [116,114,117,116,104]),(.sc (.int .i64 (.ofNat 0))),(.sl .full 0 []),(.sl .full 1 [(.sc (.int .i64 (.ofNat 8))),(.sc (.int .i64 (.ofNat 0))),(Ad [116,114,117,116,104]),(.sc (.int .i64 (.ofNat 0))),(.sl .full 0 []),rJ])]),(.sl .full 0 []),(.sc (.int .i64 (.ofNat 13))),(.sc (.int .i64 (.ofNat 0))),(Ad [69,85,82]),(.sc (.int .i64 (.ofNat 0))),(.sl .full 0 []),zB,(.sc (.int .i64 (.ofNat 2))),(.sc (.int .i64 (.ofNat 0))),(.sc (.int .i64 (.ofNat 0))),(.sc (.int .i64 (.ofNat 8766))),(.sc (.int .i64 (.ofNat 9132))),(.sc (.int .i64 (.ofNat 8766))),yG,(.sl .full 0 []),(.sc (.int .i64 (.ofNat 3))),(.sc (.int .i64 (.ofNat 3))),(Ad [69,85,82]),(.sc (.int .i64 (.ofNat 0))),(.sl .full 0 []),(.sl .full 0 []),(.sc (.int .i64 (.ofNat 3))),(.sc (.int .i64 (.ofNat 0))),(.sc (.int .i64 (.ofNat 0))),(.sc (.int .i64 (.ofNat 8766))),(.sc (.int .i64 (.ofNat 36525))),(.sc (.int .i64 (.ofNat 8797))),(.sl .full 0 []),(.sl .lost 1 [(.sc (.int .i64 (.ofNat 1)))]),(.sc (.int .i64 (.ofNat 1))),(.sc (.int .i64 (.ofNat 0))),(Ad [69,85,82]),(.sc (.int .i64 (.ofNat 0))),(.sl .full 0 []),(.sl .full 0 [])]
def lS:BC:=⟨72,[ND],none,(.Bh [(.agg [(.sc (.int .i64 (.ofNat 1))),(Ad []),(Ad []),(.sc (.int .i64 (.ofNat 0))),(.sc (.int .i64 (.ofNat 0))),(.sc (.int .i64 (.ofNat 0))),(.sc (.int .i64 (.ofNat 0))),(.sc (.int .i64 (.ofNat 0))),(.sl .full 0 []),pO,(.sc (.int .i64 (.ofNat 0)))]),(.sl .full 0 [])])⟩
theorem Y0:At Tryz.prog Hd.G lS:=Hd.entry (l:=[kO,nH,mR]) (m:=1000000) (Ag.cons Yr (Ag.cons ZI (Ag.cons ZJ Hd.none))) (by kernel_rfl) (by kernel_rfl)
def jX:BC:=⟨80,[(.agg [(.sc (.int .i64 (.ofNat 2))),(Ad [97]),(Ad [110,117,109,98,101,114]),(.sc (.int .i64 (.ofNat 0))),(.sc (.int .i64 (.ofNat 0))),(.sc (.int .i64 (.ofNat 0))),(.sc (.int .i64 (.ofNat 0))),(.sc (.int .i64 (.ofNat 0))),(.sl .full 0 []),(.sl .full 0 []),(.sc (.int .i64 (.ofNat 0)))]),(.sc (.int .i64 (.ofNat 2)))],(some ([(.sc (.int .i64 (.ofNat 1)))],[(.sc (.int .i64 (.ofNat 2)))])),(.sc (.bool true))⟩
theorem TC:At Tryz.prog Hd.G jX:=Hd.entry (l:=[]) (m:=1000000) Hd.none (by kernel_rfl) (by kernel_rfl)
def eT:BC:=⟨80,[(.agg [(.sc (.int .i64 (.ofNat 3))),(Ad [108]),(Ad [69,85,82]),(.sc (.int .i64 (.ofNat 1))),(.sc (.int .i64 (.ofNat 0))),(.sc (.int .i64 (.ofNat 0))),(.sc (.int .i64 (.ofNat 0))),(.sc (.int .i64 (.ofNat 0))),(.sl .full 0 []),(.sl .full 0 []),(.sc (.int .i64 (.ofNat 17)))]),(.sc (.int .i64 (.ofNat 2)))],(some ([(.sc (.int .i64 (.ofNat 2)))],[(.sc (.int .i64 (.ofNat 3)))])),(.sc (.bool true))⟩
theorem Tw:At Tryz.prog Hd.G eT:=Hd.entry (l:=[]) (m:=1000000) Hd.none (by kernel_rfl) (by kernel_rfl)
def jT:BC:=⟨80,[(.agg [(.sc (.int .i64 (.ofNat 4))),(Ad [108]),(Ad []),(.sc (.int .i64 (.ofNat 1))),(.sc (.int .i64 (.ofNat 0))),(.sc (.int .i64 (.ofNat 0))),(.sc (.int .i64 (.ofNat 0))),(.sc (.int .i64 (.ofNat 0))),(.sl .full 0 []),iS,(.sc (.int .i64 (.ofNat 36)))]),(.sc (.int .i64 (.ofNat 2)))],(some ([(.sc (.int .i64 (.ofNat 3)))],[(.sc (.int .i64 (.ofNat 13)))])),(.sc (.bool true))⟩
theorem Tl:At Tryz.prog Hd.G jT:=Hd.entry (l:=[]) (m:=1000000) Hd.none (by kernel_rfl) (by kernel_rfl)
def iL:BC:=⟨80,[(.agg [(.sc (.int .i64 (.ofNat 4))),(Ad [108]),(Ad []),(.sc (.int .i64 (.ofNat 2))),(.sc (.int .i64 (.ofNat 0))),(.sc (.int .i64 (.ofNat 0))),(.sc (.int .i64 (.ofNat 0))),(.sc (.int .i64 (.ofNat 0))),(.sl .full 0 []),tR,(.sc (.int .i64 (.ofNat 130)))]),(.sc (.int .i64 (.ofNat 2)))],(some ([(.sc (.int .i64 (.ofNat 13)))],[(.sc (.int .i64 (.ofNat 25)))])),(.sc (.bool true))⟩
theorem SP:At Tryz.prog Hd.G iL:=Hd.entry (l:=[]) (m:=1000000) Hd.none (by kernel_rfl) (by kernel_rfl)
def gO:BC:=⟨80,[(.agg [(.sc (.int .i64 (.ofNat 4))),(Ad [108]),(Ad []),(.sc (.int .i64 (.ofNat 3))),(.sc (.int .i64 (.ofNat 0))),(.sc (.int .i64 (.ofNat 0))),(.sc (.int .i64 (.ofNat 0))),(.sc (.int .i64 (.ofNat 0))),(.sl .full 0 []),qQ,(.sc (.int .i64 (.ofNat 250)))]),(.sc (.int .i64 (.ofNat 2)))],(some ([(.sc (.int .i64 (.ofNat 25)))],[(.sc (.int .i64 (.ofNat 31)))])),(.sc (.bool true))⟩
theorem TQ:At Tryz.prog Hd.G gO:=Hd.entry (l:=[]) (m:=1000000) Hd.none (by kernel_rfl) (by kernel_rfl)
def XT:BC:=⟨45,[(.agg [(.sc (.int .i64 (.ofNat 1))),(Ad []),(Ad []),(.sc (.int .i64 (.ofNat 0))),(.sc (.int .i64 (.ofNat 0))),(.sc (.int .i64 (.ofNat 0))),(.sc (.int .i64 (.ofNat 0))),(.sc (.int .i64 (.ofNat 0))),(.sl .full 0 []),p4,(.sc (.int .i64 (.ofNat 0)))])],none,(.sc (.bool true))⟩
theorem PN:At Tryz.prog Hd.G XT:=Hd.entry (l:=[jX,eT,jT,iL,gO]) (m:=1000000) (Ag.cons TC (Ag.cons Tw (Ag.cons Tl (Ag.cons SP (Ag.cons TQ Hd.none))))) (by kernel_rfl) (by kernel_rfl)
def Yb:BC:=⟨46,[(.agg [(.sc (.int .i64 (.ofNat 1))),(Ad []),(Ad []),(.sc (.int .i64 (.ofNat 0))),(.sc (.int .i64 (.ofNat 0))),(.sc (.int .i64 (.ofNat 0))),(.sc (.int .i64 (.ofNat 0))),(.sc (.int .i64 (.ofNat 0))),(.sl .full 0 []),p4,(.sc (.int .i64 (.ofNat 0)))])],none,(.sl .full 0 [])⟩
theorem PP:At Tryz.prog Hd.G Yb:=Hd.entry (l:=[]) (m:=1000000) Hd.none (by kernel_rfl) (by kernel_rfl)
def oV:BC:=⟨14,[(.agg [(.sc (.int .i64 (.ofNat 1))),(Ad []),(Ad []),(.sc (.int .i64 (.ofNat 0))),(.sc (.int .i64 (.ofNat 0))),(.sc (.int .i64 (.ofNat 0))),(.sc (.int .i64 (.ofNat 0))),(.sc (.int .i64 (.ofNat 0))),(.sl .full 0 []),p4,(.sc (.int .i64 (.ofNat 0)))])],none,(.Bh [(.agg [(.sl .lost 1 [(Ad [97]),(Ad [110,117,109,98,101,114]),(.sc (.int .i64 (.ofNat 0)))]),(.sl .lost 1 [(Ad [108]),(Ad [69,85,82]),(.sc (.int .i64 (.ofNat 1)))]),Ou]),(.sl .full 0 [])])⟩
theorem YB:At Tryz.prog Hd.G oV:=Hd.entry (l:=[XT,Yb]) (m:=1000000) (Ag.cons PN (Ag.cons PP Hd.none)) (by kernel_rfl) (by kernel_rfl)
def oE:BC:=⟨80,[(.agg [(.sc (.int .i64 (.ofNat 3))),(Ad [108]),(Ad [69,85,82]),(.sc (.int .i64 (.ofNat 1))),(.sc (.int .i64 (.ofNat 0))),(.sc (.int .i64 (.ofNat 0))),(.sc (.int .i64 (.ofNat 0))),(.sc (.int .i64 (.ofNat 0))),(.sl .full 0 []),(.sl .full 0 []),(.sc (.int .i64 (.ofNat 0)))]),(.sc (.int .i64 (.ofNat 2)))],(some ([(.sc (.int .i64 (.ofNat 1)))],[(.sc (.int .i64 (.ofNat 2)))])),(.sc (.bool true))⟩
theorem Zj:At Tryz.prog Hd.G oE:=Hd.entry (l:=[]) (m:=1000000) Hd.none (by kernel_rfl) (by kernel_rfl)
def kZ:BC:=⟨80,[(.agg [(.sc (.int .i64 (.ofNat 4))),(Ad [108]),(Ad []),(.sc (.int .i64 (.ofNat 1))),(.sc (.int .i64 (.ofNat 0))),(.sc (.int .i64 (.ofNat 0))),(.sc (.int .i64 (.ofNat 0))),(.sc (.int .i64 (.ofNat 0))),(.sl .full 0 []),qA,(.sc (.int .i64 (.ofNat 19)))]),(.sc (.int .i64 (.ofNat 2)))],(some ([(.sc (.int .i64 (.ofNat 2)))],[(.sc (.int .i64 (.ofNat 6)))])),(.sc (.bool true))⟩
theorem XX:At Tryz.prog Hd.G kZ:=Hd.entry (l:=[]) (m:=1000000) Hd.none (by kernel_rfl) (by kernel_rfl)
def gQ:BC:=⟨45,[(.agg [(.sc (.int .i64 (.ofNat 1))),(Ad []),(Ad []),(.sc (.int .i64 (.ofNat 0))),(.sc (.int .i64 (.ofNat 0))),(.sc (.int .i64 (.ofNat 0))),(.sc (.int .i64 (.ofNat 0))),(.sc (.int .i64 (.ofNat 0))),(.sl .full 0 []),pO,(.sc (.int .i64 (.ofNat 0)))])],none,(.sc (.bool true))⟩
theorem TH:At Tryz.prog Hd.G gQ:=Hd.entry (l:=[jX,eT,jT,iL,gO,oE,kZ]) (m:=1000000) (Ag.cons TC (Ag.cons Tw (Ag.cons Tl (Ag.cons SP (Ag.cons TQ (Ag.cons Zj (Ag.cons XX Hd.none))))))) (by kernel_rfl) (by kernel_rfl)
def cZ:BC:=⟨46,[(.agg [(.sc (.int .i64 (.ofNat 1))),(Ad []),(Ad []),(.sc (.int .i64 (.ofNat 0))),(.sc (.int .i64 (.ofNat 0))),(.sc (.int .i64 (.ofNat 0))),(.sc (.int .i64 (.ofNat 0))),(.sc (.int .i64 (.ofNat 0))),(.sl .full 0 []),pO,(.sc (.int .i64 (.ofNat 0)))])],none,(.sl .lost 1 [(.sc (.int .i64 (.ofNat 11))),(.sc (.int .i64 (.ofNat 84)))])⟩
theorem S0:At Tryz.prog Hd.G cZ:=Hd.entry (l:=[]) (m:=1000000) Hd.none (by kernel_rfl) (by kernel_rfl)
def kX:BC:=⟨14,[(.agg [(.sc (.int .i64 (.ofNat 1))),(Ad []),(Ad []),(.sc (.int .i64 (.ofNat 0))),(.sc (.int .i64 (.ofNat 0))),(.sc (.int .i64 (.ofNat 0))),(.sc (.int .i64 (.ofNat 0))),(.sc (.int .i64 (.ofNat 0))),(.sl .full 0 []),pO,(.sc (.int .i64 (.ofNat 0)))])],none,(.Bh [(.agg [(.sl .full 0 []),(.sl .full 0 []),(.sl .full 0 [])]),(.sl .lost 1 [(.sc (.int .i64 (.ofNat 11))),(.sc (.int .i64 (.ofNat 84)))])])⟩
theorem XK:At Tryz.prog Hd.G kX:=Hd.entry (l:=[XT,Yb,gQ,cZ]) (m:=1000000) (Ag.cons PN (Ag.cons PP (Ag.cons TH (Ag.cons S0 Hd.none)))) (by kernel_rfl) (by kernel_rfl)
def n6:BC:=⟨14,[(.agg [(.sc (.int .i64 (.ofNat 11))),(Ad []),(Ad [110,117,109,98,101,114]),(.sc (.int .i64 (.ofNat 1))),(.sc (.int .i64 (.ofNat 0))),(.sc (.int .i64 (.ofNat 0))),(.sc (.int .i64 (.ofNat 0))),(.sc (.int .i64 (.ofNat 0))),(.sl .full 0 []),(.sl .full 0 []),(.sc (.int .i64 (.ofNat 0)))])],none,(.Bh [(.agg [(.sl .full 0 []),(.sl .full 0 []),(.sl .full 0 [])]),(.sl .full 1 [(.sc (.int .i64 (.ofNat 1))),(.sc (.int .i64 (.ofNat 0)))])])⟩
theorem Zl:At Tryz.prog Hd.G n6:=Hd.entry (l:=[XT,Yb,gQ,cZ]) (m:=1000000) (Ag.cons PN (Ag.cons PP (Ag.cons TH (Ag.cons S0 Hd.none)))) (by kernel_rfl) (by kernel_rfl)
def oF:BC:=⟨16,[(.agg [(.sl .lost 1 [(Ad [97]),(Ad [110,117,109,98,101,114]),(.sc (.int .i64 (.ofNat 0)))]),(.sl .lost 1 [(Ad [108]),(Ad [69,85,82]),(.sc (.int .i64 (.ofNat 1)))]),Ou]),(.sc (.int .i64 (.ofNat 2))),(.sc (.int .i64 (.ofNat 8766))),(.sc (.int .i64 (.ofNat 8766)))],none,(.Bh [(.sc (.int .i64 (.ofNat 1))),(.sc (.bool true))])⟩
theorem ZV:At Tryz.prog Hd.G oF:=Hd.entry (l:=[]) (m:=1000000) Hd.none (by kernel_rfl) (by kernel_rfl)
end Go.Proofs.YtnijkdknnmgoeaaGreat
