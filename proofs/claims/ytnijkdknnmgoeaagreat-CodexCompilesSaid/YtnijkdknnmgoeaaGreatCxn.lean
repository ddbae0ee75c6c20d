/- Part of a proof: see the last text. -/
import Derived.Test.YtnijkdknnmgoeaaGreatCxm
set_option linter.unusedVariables false
set_option linter.unusedSimpArgs false
namespace Go.Proofs.YtnijkdknnmgoeaaGreat
open AI Go
namespace Mo
set_option maxRecDepth 100000
set_option maxHeartbeats 4000000
noncomputable def fU (k:Int):List Nd→ByteArray→Option ByteArray
 | [],_=>none
 | a::l,x=>AB (a.kind=k∧a.name=x) (some a.unit) (fU k l x)
noncomputable def fA:List Nd→Int→Option ByteArray
 | [],_=>none
 | a::l,z=>AB (a.kind=4∧a.n=z) (some a.name) (fA l z)
abbrev rU:Type:=Mm ByteArray ByteArray×Mm ByteArray ByteArray×Mm Int ByteArray
noncomputable def MP (a:Nd) (x:rU):rU :=
 AB (a.kind=2) (AB ((x.1.get a.name).isSome=true) x (x.1.set a.name a.unit,x.2.1,x.2.2))
   (AB (a.kind=3) (AB ((x.2.1.get a.name).isSome=true) x (x.1,x.2.1.set a.name a.unit,x.2.2))
     (AB (a.kind=4) (AB ((x.2.2.get a.n).isSome=true) x (x.1,x.2.1,x.2.2.set a.n a.name)) x))
noncomputable def V3:List Nd→rU→rU
 | [],x=>x
 | a::l,x=>V3 l (MP a x)
noncomputable def VF (n:Nd):Sc:=⟨(V3 n.kids (Mm.nil,Mm.nil,Mm.nil)).1,(V3 n.kids (Mm.nil,Mm.nil,Mm.nil)).2.1,(V3 n.kids (Mm.nil,Mm.nil,Mm.nil)).2.2⟩
theorem WZ:∀ (l:List Nd) (i:Nat) (x:rU),AL (fun i y x=>Eu i y x.1 x.2.1 x.2.2) (fun x=>(x.1,x.2.1,x.2.2)) l i x=(some (.inl (V3 l x)):Option (rU⊕Sc))
 | [],_,_=>rfl
 | a::l,i,x=>by
   rw [AL,Eu,V3]
   have e:∀ x',(some (Lp.nx x'):Option (Lp rU rU Sc)).bind (Im (AL (fun i y x=>Eu i y x.1 x.2.1 x.2.2) (fun x=>(x.1,x.2.1,x.2.2)) l (i+1)))=some (.inl (V3 l x')):=fun x'=>WZ l (i+1) x'
   simp only [BV,BH,dV,Eb]
   unfold MP
   by_cases k2:a.kind=2
   · rw [Ac k2,Ac k2]
     by_cases h:(x.1.get a.name).isSome=true
     · rw [Ac h,Ac h];exact e _
     · rw [Ab h,Ab h];exact e _
   rw [Ab k2,Ab k2]
   by_cases k3:a.kind=3
   · rw [Ac k3,Ac k3]
     by_cases h:(x.2.1.get a.name).isSome=true
     · rw [Ac h,Ac h];exact e _
     · rw [Ab h,Ab h];exact e _
   rw [Ab k3,Ab k3]
   by_cases k4:a.kind=4
   · rw [Ac k4,Ac k4]
     by_cases h:(x.2.2.get a.n).isSome=true
     · rw [Ac h,Ac h];exact e _
     · rw [Ab h,Ab h];exact e _
   rw [Ab k4,Ab k4]
   exact e _
theorem qH {n:Nd} (hok:FM n):Gf n=some (VF n):=by
 obtain ⟨hps,hkl,hks⟩:=H7 hok
 rw [Gf,Fy hkl,List.drop_zero,WZ]
 rfl
theorem RN:∀ (l:List Nd) (x:rU),(∀ y,(V3 l x).1.get y=(x.1.get y).or (fU 2 l y))∧(∀ y,(V3 l x).2.1.get y=(x.2.1.get y).or (fU 3 l y))∧∀ z,(V3 l x).2.2.get z=(x.2.2.get z).or (fA l z)
 | [],x=>⟨fun y=>by simp [V3,fU],fun y=>by simp [V3,fU],fun z=>by simp [V3,fA]⟩
 | a::l,x=>by
   obtain ⟨h1,h2,h3⟩:=RN l (MP a x)
   have s1:∀ y,(MP a x).1.get y=(x.1.get y).or (AB (a.kind=2∧a.name=y) (some a.unit) none):=by
     intro y
     unfold MP
     by_cases k2:a.kind=2
     · rw [Ac k2]
       by_cases h:(x.1.get a.name).isSome=true
       · rw [Ac h]
         by_cases e:a.name=y
         · subst e
           obtain ⟨v,hv⟩:=Option.isSome_iff_exists.1 h
           rw [hv];rfl
         · rw [Ab (show ¬ (a.kind=2∧a.name=y) from fun q=>e q.2)];simp
       · rw [Ab h]
         show (x.1.set a.name a.unit).get y=_
         rw [Mm.Dz]
         by_cases e:y=a.name
         · subst e
           rw [if_pos rfl,Ac ⟨k2,rfl⟩]
           have:x.1.get a.name=none:=by simpa using h
           rw [this];rfl
         · rw [if_neg e,Ab (show ¬ (a.kind=2∧a.name=y) from fun q=>e q.2.symm)];simp
     · rw [Ab k2,Ab (show ¬ (a.kind=2∧a.name=y) from fun q=>k2 q.1)]
       by_cases k3:a.kind=3
       · rw [Ac k3]
         by_cases h:(x.2.1.get a.name).isSome=true
         · rw [Ac h];simp
         · rw [Ab h];simp
       · rw [Ab k3]
         by_cases k4:a.kind=4
         · rw [Ac k4]
           by_cases h:(x.2.2.get a.n).isSome=true
           · rw [Ac h];simp
           · rw [Ab h];simp
         · rw [Ab k4];simp
   have s2:∀ y,(MP a x).2.1.get y=(x.2.1.get y).or (AB (a.kind=3∧a.name=y) (some a.unit) none):=by
     intro y
     unfold MP
     by_cases k2:a.kind=2
     · rw [Ac k2,Ab (show ¬ (a.kind=3∧a.name=y) from fun q=>by omega)]
       by_cases h:(x.1.get a.name).isSome=true
       · rw [Ac h];simp
       · rw [Ab h];simp
     · rw [Ab k2]
       by_cases k3:a.kind=3
       · rw [Ac k3]
         by_cases h:(x.2.1.get a.name).isSome=true
         · rw [Ac h]
           by_cases e:a.name=y
           · subst e
             obtain ⟨v,hv⟩:=Option.isSome_iff_exists.1 h
             rw [hv];rfl
           · rw [Ab (show ¬ (a.kind=3∧a.name=y) from fun q=>e q.2)];simp
         · rw [Ab h]
           show (x.2.1.set a.name a.unit).get y=_
           rw [Mm.Dz]
           by_cases e:y=a.name
           · subst e
             rw [if_pos rfl,Ac ⟨k3,rfl⟩]
             have:x.2.1.get a.name=none:=by simpa using h
             rw [this];rfl
           · rw [if_neg e,Ab (show ¬ (a.kind=3∧a.name=y) from fun q=>e q.2.symm)];simp
       · rw [Ab k3,Ab (show ¬ (a.kind=3∧a.name=y) from fun q=>k3 q.1)]
         by_cases k4:a.kind=4
         · rw [Ac k4]
           by_cases h:(x.2.2.get a.n).isSome=true
           · rw [Ac h];simp
           · rw [Ab h];simp
         · rw [Ab k4];simp
   have s3:∀ z,(MP a x).2.2.get z=(x.2.2.get z).or (AB (a.kind=4∧a.n=z) (some a.name) none):=by
     intro z
     unfold MP
     by_cases k2:a.kind=2
     · rw [Ac k2,Ab (show ¬ (a.kind=4∧a.n=z) from fun q=>by omega)]
       by_cases h:(x.1.get a.name).isSome=true
       · rw [Ac h];simp
       · rw [Ab h];simp
     · rw [Ab k2]
       by_cases k3:a.kind=3
       · rw [Ac k3,Ab (show ¬ (a.kind=4∧a.n=z) from fun q=>by omega)]
         by_cases h:(x.2.1.get a.name).isSome=true
         · rw [Ac h];simp
         · rw [Ab h];simp
       · rw [Ab k3]
         by_cases k4:a.kind=4
         · rw [Ac k4]
           by_cases h:(x.2.2.get a.n).isSome=true
           · rw [Ac h]
             by_cases e:a.n=z
             · subst e
               obtain ⟨v,hv⟩:=Option.isSome_iff_exists.1 h
               rw [hv];rfl
             · rw [Ab (show ¬ (a.kind=4∧a.n=z) from fun q=>e q.2)];simp
           · rw [Ab h]
             show (x.2.2.set a.n a.name).get z=_
             rw [Mm.Dz]
             by_cases e:z=a.n
             · subst e
               rw [if_pos rfl,Ac ⟨k4,rfl⟩]
               have:x.2.2.get a.n=none:=by simpa using h
               rw [this];rfl
             · rw [if_neg e,Ab (show ¬ (a.kind=4∧a.n=z) from fun q=>e q.2.symm)];simp
         · rw [Ab k4,Ab (show ¬ (a.kind=4∧a.n=z) from fun q=>k4 q.1)];simp
   have or_if:∀ {p:Prop} {u:ByteArray} {o f:Option ByteArray},(o.or (AB p (some u) none)).or f=o.or (AB p (some u) f):=by
     intro p u o f
     by_cases h:p
     · rw [Ac h,Ac h];cases o<;>rfl
     · rw [Ab h,Ab h];cases o<;>rfl
   refine ⟨fun y=>?_,fun y=>?_,fun z=>?_⟩
   · rw [V3,h1,s1,fU,or_if]
   · rw [V3,h2,s2,fU,or_if]
   · rw [V3,h3,s3,fA,or_if]
theorem gJ (n:Nd) (x:ByteArray):(VF n).facts.get x=fU 2 n.kids x:=by
 have:=(RN n.kids (Mm.nil,Mm.nil,Mm.nil)).1 x
 exact this.trans (by rw [Mm.get_nil];rfl)
theorem Tf (n:Nd) (x:ByteArray):(VF n).lines.get x=fU 3 n.kids x:=by
 have:=(RN n.kids (Mm.nil,Mm.nil,Mm.nil)).2.1 x
 exact this.trans (by rw [Mm.get_nil];rfl)
theorem Vt (n:Nd) (z:Int):(VF n).Af.get z=fA n.kids z:=by
 have:=(RN n.kids (Mm.nil,Mm.nil,Mm.nil)).2.2 z
 exact this.trans (by rw [Mm.get_nil];rfl)
end Mo
end Go.Proofs.YtnijkdknnmgoeaaGreat
namespace Go.Proofs.YtnijkdknnmgoeaaGreat
open AI Go
namespace Mo
set_option maxRecDepth 100000
set_option maxHeartbeats 4000000
def ntI (s:List Dc×Mm ByteArray Int×List Dc×Mm ByteArray Int):Prop:=(∀ x i,s.2.1.get x=some i→0≤i∧i < ((s.1.length:Nat):Int))∧(∀ x i,s.2.2.2.get x=some i→0≤i∧i < ((s.2.2.1.length:Nat):Int))
theorem aci {s:List Dc×Mm ByteArray Int×List Dc×Mm ByteArray Int} (h:ntI s) (e:Nd):ntI (P6 s e):=by
 obtain ⟨h1,h2⟩:=h
 unfold P6
 by_cases k2:e.kind=2
 · rw [Ac k2]
   refine ⟨fun x i hx=>?_,h2⟩
   simp only [List.length_append,List.length_singleton] at hx ⊢
   rw [Mm.Dz] at hx
   split at hx
   · cases hx;omega
   · have:=h1 x i hx;omega
 rw [Ab k2]
 by_cases k3:e.kind=3
 · rw [Ac k3]
   refine ⟨h1,fun x i hx=>?_⟩
   simp only [List.length_append,List.length_singleton] at hx ⊢
   rw [Mm.Dz] at hx
   split at hx
   · cases hx;omega
   · have:=h2 x i hx;omega
 rw [Ab k3]
 exact ⟨h1,h2⟩
theorem sY {s:List Dc×Mm ByteArray Int×List Dc×Mm ByteArray Int} {e:Nd} {x:ByteArray} (h:s.2.1.get x≠none∨(e.kind=2∧e.name=x)):(P6 s e).2.1.get x≠none:=by
 unfold P6
 by_cases k2:e.kind=2
 · rw [Ac k2]
   simp only
   rw [Mm.Dz]
   split
   · simp
   · rename_i hx
     rcases h with h | h
     · exact h
     · exact absurd h.2.symm hx
 rw [Ab k2]
 rcases h with h | h
 · by_cases k3:e.kind=3
   · rw [Ac k3];exact h
   · rw [Ab k3];exact h
 · exact absurd h.1 k2
theorem tP {s:List Dc×Mm ByteArray Int×List Dc×Mm ByteArray Int} {e:Nd} {x:ByteArray} (h:s.2.2.2.get x≠none∨(e.kind=3∧e.name=x)):(P6 s e).2.2.2.get x≠none:=by
 unfold P6
 by_cases k2:e.kind=2
 · rw [Ac k2]
   rcases h with h | h
   · exact h
   · omega
 rw [Ab k2]
 by_cases k3:e.kind=3
 · rw [Ac k3]
   simp only
   rw [Mm.Dz]
   split
   · simp
   · rename_i hx
     rcases h with h | h
     · exact h
     · exact absurd h.2.symm hx
 rw [Ab k3]
 rcases h with h | h
 · exact h
 · exact absurd h.1 k3
theorem V1 {k:Int} {a:Nd} {l:List Nd} {x:ByteArray} (h:fU k (a::l) x≠none):(a.kind=k∧a.name=x)∨fU k l x≠none:=by
 rw [fU] at h
 by_cases c:a.kind=k∧a.name=x
 · exact .inl c
 · rw [Ab c] at h;exact .inr h
theorem PJ:∀ (l:List Nd) (s:List Dc×Mm ByteArray Int×List Dc×Mm ByteArray Int),ntI s→ntI (l.foldl P6 s)∧(∀ x,s.2.1.get x≠none∨fU 2 l x≠none→(l.foldl P6 s).2.1.get x≠none)∧(∀ x,s.2.2.2.get x≠none∨fU 3 l x≠none→(l.foldl P6 s).2.2.2.get x≠none)
 | [],s,h=>⟨h,fun x hx=>hx.elim id fun h=>absurd (by rw [fU]) h,fun x hx=>hx.elim id fun h=>absurd (by rw [fU]) h⟩
 | a::l,s,h=>by
   rw [List.foldl_cons]
   obtain ⟨h1,h2,h3⟩:=PJ l (P6 s a) (aci h a)
   refine ⟨h1,fun x hx=>?_,fun x hx=>?_⟩
   · rcases hx with hx | hx
     · exact h2 x (.inl (sY (.inl hx)))
     · rcases V1 hx with hx | hx
       · exact h2 x (.inl (sY (.inr hx)))
       · exact h2 x (.inr hx)
   · rcases hx with hx | hx
     · exact h3 x (.inl (tP (.inl hx)))
     · rcases V1 hx with hx | hx
       · exact h3 x (.inl (tP (.inr hx)))
       · exact h3 x (.inr hx)
theorem R2:ntI ([],Mm.nil,[],Mm.nil):=⟨fun x i h=>by simp [Mm.get_nil] at h,fun x i h=>by simp [Mm.get_nil] at h⟩
theorem Mx {α:Type} {l:List α} {z:Int} (h0:0≤z) (h1:z < ((l.length:Nat):Int)):(CP l z).isSome=true:=by
 unfold CP
 rw [if_pos h0,List.getElem?_eq_getElem (by omega)]
 rfl
theorem rH {l:List Nd} {x:ByteArray} (h:fU 2 l x≠none):(CP (Fj l).codex.facts (((Fj l).facts.get x).getD 0)).isSome=true:=by
 obtain ⟨h1,h2,_⟩:=PJ l ([],Mm.nil,[],Mm.nil) R2
 show (CP (FJ l).1 (((FJ l).2.1.get x).getD 0)).isSome=true
 have h2:(FJ l).2.1.get x≠none:=h2 x (.inr h)
 cases hg:(FJ l).2.1.get x with
 | none=>exact absurd hg h2
 | some i =>
   have:=h1.1 x i hg
   exact Mx this.1 this.2
theorem nG {l:List Nd} {x:ByteArray} (h:fU 3 l x≠none):∃ i,(FJ l).2.2.2.get x=some i∧(CP (Fj l).codex.lines i).isSome=true:=by
 obtain ⟨h1,_,h3⟩:=PJ l ([],Mm.nil,[],Mm.nil) R2
 have h3:(FJ l).2.2.2.get x≠none:=h3 x (.inr h)
 cases hg:(FJ l).2.2.2.get x with
 | none=>exact absurd hg h3
 | some i =>
   have:=h1.2 x i hg
   exact ⟨i,rfl,Mx this.1 this.2⟩
theorem Wb {lm:Mm ByteArray Int} {z:Int} {w:ByteArray}:∀ (l:List Nd) (m:Mm Int Int),(∀ a∈l,a.kind=4→a.n=z→a.name=w)→((m.get z=some ((lm.get w).getD 0))∨fA l z≠none)→(l.foldl (na1 lm) m).get z=some ((lm.get w).getD 0)
 | [],m,_,h=>h.elim id fun h=>absurd (by rw [fA]) h
 | a::l,m,hw,h=>by
   rw [List.foldl_cons]
   refine Wb l _ (fun b hb=>hw b (by simp [hb])) ?_
   unfold na1
   by_cases k4:a.kind=4
   · rw [Ac k4,Mm.Dz]
     by_cases hz:z=a.n
     · rw [if_pos hz,hw a (by simp) k4 hz.symm];exact .inl rfl
     · rw [if_neg hz]
       rcases h with h | h
       · exact .inl h
       · rw [fA,Ab (fun q=>hz q.2.symm)] at h;exact .inr h
   · rw [Ab k4]
     rcases h with h | h
     · exact .inl h
     · rw [fA,Ab (fun q=>k4 q.1)] at h;exact .inr h
theorem aaA {l:List Nd} {z:Int} {w:ByteArray} (hw:∀ a∈l,a.kind=4→a.n=z→a.name=w) (hz:fA l z≠none) (h:fU 3 l w≠none):(CP (Fj l).codex.lines (((Fj l).Af.get z).getD 0)).isSome=true:=by
 obtain ⟨i,h1,h2⟩:=nG h
 have:=Wb (lm:=(FJ l).2.2.2) l Mm.nil hw (.inr hz)
 show (CP (FJ l).2.2.1 (((Vk (FJ l).2.2.2 l).get z).getD 0)).isSome=true
 unfold Vk
 rw [this,h1]
 exact h2
end Mo
end Go.Proofs.YtnijkdknnmgoeaaGreat
namespace Go.Proofs.YtnijkdknnmgoeaaGreat
open AI Go
namespace Mo
set_option maxRecDepth 100000
set_option maxHeartbeats 4000000
def cap (ds r:List Dg):List Dg:=(ds++r).take 20
theorem EW (ds a b:List Dg):cap (cap ds a) b=cap ds (a++b):=by
 unfold cap
 rw [← List.append_assoc]
 generalize ds++a=l
 rw [List.take_append,List.take_append,List.take_take,Nat.min_self,List.length_take]
 by_cases h:l.length≤20
 · rw [Nat.min_eq_right h]
 · rw [Nat.min_eq_left (by omega),show 20 - 20=0 by omega,show 20 - l.length=0 by omega]
theorem Ew {ds:List Dg} (h:ds.length≤20):cap ds []=ds:=by
 unfold cap
 rw [List.append_nil,List.take_of_length_le h]
theorem Ev (ds r:List Dg):(cap ds r).length≤20:=by unfold cap;rw [List.length_take];omega
theorem O7 {ds:List Dg} (h:ds.length≤20) (e at_:Int):Of e at_ ds=cap ds [⟨e,at_⟩]:=by
 unfold Of cap
 by_cases h2:ds.length < 20
 · rw [if_pos h2,List.take_of_length_le (by simp;omega)]
 · rw [if_neg h2,List.take_append,List.take_of_length_le h,show 20 - ds.length=0 by omega]
   simp
noncomputable def HH (F:ByteArray→ByteArray) (A:Int→ByteArray) (n:Nd) (us:List ByteArray):ByteArray :=
 AB (n.kind=11) n.unit (AB (n.kind=12) (F n.name) (AB (n.kind=13) (A n.n) (AB (n.kind=14) AF
   (AB (n.kind=15) (HY IP us) (AB (n.kind=16) (HY n.name us) (AB (n.kind=17) (HY K5 us) (AB (n.kind=18) (AB (dW (us.headD eS)) (us.headD eS) eS) eS)))))))
noncomputable def Xz (F:ByteArray→ByteArray) (A:Int→ByteArray) (n:Nd) (r:List ByteArray×List Dg):ByteArray×List Dg :=
 AB (∀ u∈r.1,u≠eS) (AB (HH F A n r.1=eS) (HH F A n r.1,r.2++[⟨NQ n,n.att⟩]) (HH F A n r.1,r.2)) (eS,r.2)
mutual
noncomputable def OB (F:ByteArray→ByteArray) (A:Int→ByteArray):Nd→ByteArray×List Dg
 | ⟨kind,name,unit,n,fr,to,known,tab,kids,att⟩=>Xz F A ⟨kind,name,unit,n,fr,to,known,tab,kids,att⟩ (J9 F A kids)
noncomputable def J9 (F:ByteArray→ByteArray) (A:Int→ByteArray):List Nd→List ByteArray×List Dg
 | []=>([],[])
 | k::ks=>((OB F A k).1::(J9 F A ks).1,(OB F A k).2++(J9 F A ks).2)
end
theorem QH (F:ByteArray→ByteArray) (A:Int→ByteArray) (n:Nd):OB F A n=Xz F A n (J9 F A n.kids):=by cases n;rw [OB]
theorem Mv (F:ByteArray→ByteArray) (A:Int→ByteArray):∀ l:List Nd,J9 F A l=(l.map fun k=>(OB F A k).1,l.flatMap fun k=>(OB F A k).2)
 | []=>by rw [J9];rfl
 | k::l=>by rw [J9,Mv F A l];rfl
noncomputable def FS (s:Sc) (x:ByteArray):ByteArray:=(s.facts.get x).getD eS
noncomputable def XL (s:Sc) (z:Int):ByteArray:=(s.lines.get ((s.Af.get z).getD eS)).getD eS
theorem NH {s:Sc}:∀ {l:List Nd},(∀ k∈l,∀ ds:List Dg,ds.length≤20→Ea s k ds=((OB (FS s) (XL s) k).1,cap ds (OB (FS s) (XL s) k).2))→∀ ds:List Dg,ds.length≤20→Ey s l ds=((J9 (FS s) (XL s) l).1,cap ds (J9 (FS s) (XL s) l).2)
 | [],_,ds,h=>by rw [Ey,J9,Ew h]
 | a::l,hk,ds,h=>by
   rw [Ey,J9,hk a (by simp) ds h]
   dsimp only
   rw [NH (fun k h'=>hk k (by simp [h'])) _ (Ev _ _),EW]
theorem WQ (s:Sc):∀ (m:Nat) (n:Nd),DG n≤m→∀ ds:List Dg,ds.length≤20→Ea s n ds=((OB (FS s) (XL s) n).1,cap ds (OB (FS s) (XL s) n).2):=by
 intro m
 induction m with
 | zero=>intro n h;have:=B6 n;omega
 | succ m ih =>
   intro n hn ds hd
   have hsz:=B6 n
   rw [UL,QH,NH (fun k hk=>ih k (by have:=EY hk;omega)) ds hd]
   unfold nH Xz
   show AB _ (AB (HH (FS s) (XL s) n _=eS) (HH (FS s) (XL s) n _,_) (HH (FS s) (XL s) n _,_)) _=_
   by_cases hu:∀ u∈(J9 (FS s) (XL s) n.kids).1,u≠eS
   · rw [Ac hu,Ac hu]
     by_cases hU:HH (FS s) (XL s) n (J9 (FS s) (XL s) n.kids).1=eS
     · rw [Ac hU,Ac hU]
       dsimp only
       rw [O7 (Ev _ _),EW]
     · rw [Ab hU,Ab hU]
   · rw [Ab hu,Ab hu]
theorem aV (s:Sc) (n:Nd) {ds:List Dg} (h:ds.length≤20):Ea s n ds=((OB (FS s) (XL s) n).1,cap ds (OB (FS s) (XL s) n).2):=WQ s (DG n) n (Nat.le_refl _) ds h
noncomputable def fact (src:Nd) (x:ByteArray):ByteArray:=(fU 2 src.kids x).getD eS
noncomputable def line (src:Nd) (x:ByteArray):ByteArray:=(fU 3 src.kids x).getD eS
noncomputable def XO (src:Nd) (z:Int):ByteArray:=line src ((fA src.kids z).getD eS)
theorem wE (src:Nd):FS (VF src)=fact src:=funext fun x=>by unfold FS fact;rw [gJ]
theorem yQ (src:Nd):XL (VF src)=XO src:=funext fun z=>by unfold XL XO line;rw [Tf,Vt]
noncomputable def IM (src n:Nd):ByteArray×List Dg:=OB (fact src) (XO src) n
theorem cE (src n:Nd) {ds:List Dg} (h:ds.length≤20):Ea (VF src) n ds=((IM src n).1,cap ds (IM src n).2):=by
 rw [aV _ _ h,wE,yQ];rfl
noncomputable def Ik (before:List Nd) (a:Nd):List Dg :=
 AB (a.kind=2∨a.kind=3) (AB (∃ b∈before,b.kind=a.kind∧b.name=a.name) [⟨5,a.att⟩] (AB (32≤Bi a.kind before) [⟨2,a.att⟩] (AB (a.kind=3∧(a.unit=Ak∨(a.n≠4∧¬ dW a.unit))) [⟨11,a.att⟩] []))) []
noncomputable def Fs:List Nd→List Nd→List Dg
 | _,[]=>[]
 | b,a::l=>Ik b a++Fs (b++[a]) l
noncomputable def Gw (src:Nd) (c:Nat) (a:Nd):List Dg :=
 AB (60≤c) [⟨2,a.att⟩] (AB (fU 3 src.kids a.name=none) [⟨91,a.att⟩] (AB ((fA src.kids a.n).getD eS≠a.name) [⟨101,a.att⟩] []))
noncomputable def FH (src a k:Nd):List Dg:=AB (k.n=a.n) [⟨101,k.att⟩] (AB (fA src.kids k.n=none) [⟨91,k.att⟩] [])
noncomputable def OK (src:Nd) (w:ByteArray) (k:Nd):List Dg:=(IM src k).2++AB ((IM src k).1≠eS∧w≠eS∧(IM src k).1≠w) [⟨11,k.att⟩] []
noncomputable def FI (src a x:Nd):List Dg :=
 AB (x.kind=7) (x.kids.flatMap (FH src a)) (x.kids.flatMap (OK src (AB (x.kind=6) Ak (line src a.name))))
noncomputable def T7 (src:Nd) (c:Nat) (a:Nd):List Dg:=AB (a.kind=4) (Gw src c a++a.kids.tail.flatMap (FI src a)) []
noncomputable def Ju (src:Nd):Nat→List Nd→List Dg
 | _,[]=>[]
 | c,a::l=>T7 src c a++Ju src (c+Bi 4 [a]) l
noncomputable def OT (src:Nd):List Dg:=Fs [] src.kids++Ju src 0 src.kids
noncomputable def G2 (src:Nd):List Dg:=AB (src.kind=1∧Rb src) (cap [] (OT src)) [⟨1,0⟩]
theorem jJ {n:Nd} (h:Rb n) (hk:n.kind=1):DQ n z0∧(∀ k∈n.kids,FW k)∧DG n≤2000∧L3 n≤40:=by
 obtain ⟨a | a,b⟩:=h
 · exact ⟨a.2.1,a.2.2,b⟩
 · exact absurd hk a.1
end Mo
end Go.Proofs.YtnijkdknnmgoeaaGreat

namespace Go.Proofs.YtnijkdknnmgoeaaGreat
open AI Go
namespace Mo
set_option maxRecDepth 100000
set_option maxHeartbeats 4000000
theorem Mj (k:Int) (l m:List Nd):Bi k (l++m)=Bi k l+Bi k m:=by
 induction l with
 | nil=>simp [Bi]
 | cons a l ih=>simp only [List.cons_append,Bi,ih];omega
theorem Ql {ds:List Dg} (h:ds.length≤20) (e at_:Int):AD e at_ ds=some ((),cap ds [⟨e,at_⟩]):=by rw [W3,O7 h]
structure VN (b:List Nd) (w5:Mm ByteArray Bool) (w2:Mm Int Int) (w4:Mm ByteArray Bool):Prop where
 lines:∀ x,((w5.get x).getD false=true)↔∃ a∈b,a.kind=3∧a.name=x
 facts:∀ x,((w4.get x).getD false=true)↔∃ a∈b,a.kind=2∧a.name=x
 Kv:∀ k,k=2∨k=3→(w2.get k).getD 0=((Bi k b:Nat):Int)
theorem eD:VN [] Mm.nil Mm.nil Mm.nil:=⟨fun x=>by simp [Mm.get_nil],fun x=>by simp [Mm.get_nil],fun k _=>by simp [Mm.get_nil,Bi]⟩
theorem cQ {b:List Nd} {w5:Mm ByteArray Bool} {w2:Mm Int Int} {w4:Mm ByteArray Bool} (h:VN b w5 w2 w4) {a:Nd} (ha:a.kind=4):VN (b++[a]) w5 w2 w4:=by
 refine ⟨fun x=>(h.lines x).trans ?_,fun x=>(h.facts x).trans ?_,fun k hk=>(h.Kv k hk).trans ?_⟩
 · simp only [List.mem_append,List.mem_singleton]
   constructor
   · rintro ⟨c,hc,e⟩;exact ⟨c,.inl hc,e⟩
   · rintro ⟨c,hc | rfl,e⟩
     · exact ⟨c,hc,e⟩
     · omega
 · simp only [List.mem_append,List.mem_singleton]
   constructor
   · rintro ⟨c,hc,e⟩;exact ⟨c,.inl hc,e⟩
   · rintro ⟨c,hc | rfl,e⟩
     · exact ⟨c,hc,e⟩
     · omega
 · rw [Mj]
   simp only [Bi]
   rw [if_neg (by omega)]
   simp
theorem dN {b:List Nd} {w5:Mm ByteArray Bool} {w2:Mm Int Int} {w4:Mm ByteArray Bool} (h:VN b w5 w2 w4) {a:Nd} (ha:a.kind=3) (hb:b.length < 9223372036854775807):VN (b++[a]) (w5.set a.name true) (w2.set a.kind (BW ((w2.get a.kind).getD 0) 1)) w4:=by
 have hc:=Jg 3 b
 refine ⟨fun x=>?_,fun x=>(h.facts x).trans ?_,fun k hk=>?_⟩
 · rw [Mm.Dz]
   simp only [List.mem_append,List.mem_singleton]
   by_cases e:x=a.name
   · rw [if_pos e]
     exact ⟨fun _=>⟨a,.inr rfl,ha,e.symm⟩,fun _=>rfl⟩
   · rw [if_neg e,h.lines x]
     constructor
     · rintro ⟨c,hc,q⟩;exact ⟨c,.inl hc,q⟩
     · rintro ⟨c,hc | rfl,q⟩
       · exact ⟨c,hc,q⟩
       · exact absurd q.2.symm e
 · simp only [List.mem_append,List.mem_singleton]
   constructor
   · rintro ⟨c,hc,e⟩;exact ⟨c,.inl hc,e⟩
   · rintro ⟨c,hc | rfl,e⟩
     · exact ⟨c,hc,e⟩
     · omega
 · rw [Mm.Dz,ha,Mj]
   simp only [Bi,ha]
   rcases hk with rfl | rfl
   · rw [if_neg (by decide),h.Kv 2 (.inl rfl),if_neg (by decide)];simp
   · rw [if_pos rfl,h.Kv 3 (.inr rfl),if_pos rfl]
     simp only [Option.getD_some]
     rw [Ce (by omega)];omega
theorem bC {b:List Nd} {w5:Mm ByteArray Bool} {w2:Mm Int Int} {w4:Mm ByteArray Bool} (h:VN b w5 w2 w4) {a:Nd} (ha:a.kind=2) (hb:b.length < 9223372036854775807):VN (b++[a]) w5 (w2.set a.kind (BW ((w2.get a.kind).getD 0) 1)) (w4.set a.name true):=by
 have hc:=Jg 2 b
 refine ⟨fun x=>(h.lines x).trans ?_,fun x=>?_,fun k hk=>?_⟩
 · simp only [List.mem_append,List.mem_singleton]
   constructor
   · rintro ⟨c,hc,e⟩;exact ⟨c,.inl hc,e⟩
   · rintro ⟨c,hc | rfl,e⟩
     · exact ⟨c,hc,e⟩
     · omega
 · rw [Mm.Dz]
   simp only [List.mem_append,List.mem_singleton]
   by_cases e:x=a.name
   · rw [if_pos e]
     exact ⟨fun _=>⟨a,.inr rfl,ha,e.symm⟩,fun _=>rfl⟩
   · rw [if_neg e,h.facts x]
     constructor
     · rintro ⟨c,hc,q⟩;exact ⟨c,.inl hc,q⟩
     · rintro ⟨c,hc | rfl,q⟩
       · exact ⟨c,hc,q⟩
       · exact absurd q.2.symm e
 · rw [Mm.Dz,ha,Mj]
   simp only [Bi,ha]
   rcases hk with rfl | rfl
   · rw [if_pos rfl,h.Kv 2 (.inl rfl),if_pos rfl]
     simp only [Option.getD_some]
     rw [Ce (by omega)];omega
   · rw [if_neg (by decide),h.Kv 3 (.inr rfl),if_neg (by decide)];simp
theorem Tm:∀ {l b:List Nd} {i:Nat} {w5:Mm ByteArray Bool} {w2:Mm Int Int} {w4:Mm ByteArray Bool} {ds:List Dg},VN b w5 w2 w4→(∀ a∈l,a.kind=2∨a.kind=3∨a.kind=4)→b.length+l.length≤9223372036854775807→ds.length≤20 →
   ∃ x5 x2 x4,AL (fun i y x=>Cb i y x.1 x.2.1 x.2.2.1 x.2.2.2) (fun x=>(x.1,x.2.1,x.2.2.1,x.2.2.2)) l i (w5,w2,ds,w4)=(some (.inl (x5,x2,cap ds (Fs b l),x4)):Option ((Mm ByteArray Bool×Mm Int Int×List Dg×Mm ByteArray Bool)⊕(Unit×List Dg)))
 | [],b,i,w5,w2,w4,ds,_,_,_,hd=>⟨w5,w2,w4,by rw [Fs,Ew hd];rfl⟩
 | a::l,b,i,w5,w2,w4,ds,hI,hk,hl,hd=>by
   simp only [List.length_cons] at hl
   have next:∀ {x5:Mm ByteArray Bool} {x2:Mm Int Int} {x4:Mm ByteArray Bool} {d2:List Dg},VN (b++[a]) x5 x2 x4→d2=cap ds (Ik b a) →
       ∃ y5 y2 y4,(some (Lp.nx (x5,x2,d2,x4))).bind (Im (AL (fun i y x=>Cb i y x.1 x.2.1 x.2.2.1 x.2.2.2) (fun x=>(x.1,x.2.1,x.2.2.1,x.2.2.2)) l (i+1)))=(some (.inl (y5,y2,cap ds (Fs b (a::l)),y4)):Option ((Mm ByteArray Bool×Mm Int Int×List Dg×Mm ByteArray Bool)⊕(Unit×List Dg))):=by
     rintro x5 x2 x4 d2 h rfl
     obtain ⟨y5,y2,y4,e⟩:=Tm (l:=l) (b:=b++[a]) (i:=i+1) (w5:=x5) (w2:=x2) (w4:=x4) (ds:=cap ds (Ik b a)) h (fun k hk'=>hk k (by simp [hk'])) (by simp;omega) (Ev _ _)
     exact ⟨y5,y2,y4,by rw [Fs,← EW];exact e⟩
   rw [AL,Cb]
   simp only [BV,Di,B8,Wg,Ql hd,Option.bind_some,dV,Eb]
   rcases hk a (by simp) with k2 | k3 | k4
   · rw [Ab (by omega),Ab (by omega),Ac k2]
     have hI':=bC hI k2 (by omega)
     have ed:∀ {x y:List Dg},Ik b a=AB (∃ c∈b,c.kind=2∧c.name=a.name) [⟨5,a.att⟩] (AB (32≤Bi 2 b) [⟨2,a.att⟩] []):=by
       intro _ _
       unfold Ik
       rw [Ac (.inl k2),k2]
       congr 2
       exact Ab fun q=>by omega
     by_cases h5:((w4.get a.name).getD false=true)
     · rw [Ac h5]
       refine next hI' ?_
       rw [ed (x:=[]) (y:=[]),Ac ((hI.facts _).1 h5)]
     · rw [Ab h5]
       have hn:=fun q=>h5 ((hI.facts _).2 q)
       rw [Mm.Dz,if_pos rfl,k2,hI.Kv 2 (.inl rfl)]
       simp only [Option.getD_some]
       have hc:=Jg 2 b
       rw [Ce (by omega)]
       by_cases h32:32≤Bi 2 b
       · rw [Ac (by omega)]
         rw [k2,hI.Kv 2 (.inl rfl),Ce (by omega)] at hI'
         refine next hI' ?_
         rw [ed (x:=[]) (y:=[]),Ab hn,Ac h32]
       · rw [Ab (by omega)]
         rw [k2,hI.Kv 2 (.inl rfl),Ce (by omega)] at hI'
         refine next hI' ?_
         rw [ed (x:=[]) (y:=[]),Ab hn,Ab h32,Ew hd]
   · rw [Ab (by omega),Ac k3]
     have hI':=dN hI k3 (by omega)
     have ed:∀ {x y:List Dg},Ik b a=AB (∃ c∈b,c.kind=3∧c.name=a.name) [⟨5,a.att⟩] (AB (32≤Bi 3 b) [⟨2,a.att⟩] (AB (a.unit=Ak∨(a.n≠4∧¬ dW a.unit)) [⟨11,a.att⟩] [])):=by
       intro _ _
       unfold Ik
       rw [Ac (.inr k3),k3]
       simp only [true_and]
     by_cases h5:((w5.get a.name).getD false=true)
     · rw [Ac h5]
       refine next hI' ?_
       rw [ed (x:=[]) (y:=[]),Ac ((hI.lines _).1 h5)]
     · rw [Ab h5]
       have hn:=fun q=>h5 ((hI.lines _).2 q)
       rw [Mm.Dz,if_pos rfl,k3,hI.Kv 3 (.inr rfl)]
       simp only [Option.getD_some]
       have hc:=Jg 3 b
       rw [Ce (by omega)]
       rw [k3,hI.Kv 3 (.inr rfl),Ce (by omega)] at hI'
       by_cases h32:32≤Bi 3 b
       · rw [Ac (by omega)]
         refine next hI' ?_
         rw [ed (x:=[]) (y:=[]),Ab hn,Ac h32]
       · rw [Ab (by omega)]
         by_cases ht:a.unit=Ak
         · rw [Ac ht]
           refine next hI' ?_
           rw [ed (x:=[]) (y:=[]),Ab hn,Ab h32,Ac (.inl ht)]
         · rw [Ab ht]
           by_cases h4:a.n=4
           · rw [Ac h4]
             refine next hI' ?_
             rw [ed (x:=[]) (y:=[]),Ab hn,Ab h32,Ab (fun q=>q.elim ht fun r=>r.1 h4),Ew hd]
           · rw [Ab h4]
             by_cases hc2:dW a.unit
             · rw [Ac hc2]
               refine next hI' ?_
               rw [ed (x:=[]) (y:=[]),Ab hn,Ab h32,Ab (fun q=>q.elim ht fun r=>r.2 hc2),Ew hd]
             · rw [Ab hc2]
               refine next hI' ?_
               rw [ed (x:=[]) (y:=[]),Ab hn,Ab h32,Ac (.inr ⟨h4,hc2⟩)]
   · rw [Ac k4]
     refine next (cQ hI k4) ?_
     have:Ik b a=[]:=by unfold Ik;rw [Ab (by omega)]
     rw [this,Ew hd]
theorem nK {n:Nd} (hok:FM n) (hk:∀ a∈n.kids,a.kind=2∨a.kind=3∨a.kind=4):CQ n []=some ((),cap [] (Fs [] n.kids)):=by
 obtain ⟨hps,hkl,hks⟩:=H7 hok
 obtain ⟨x5,x2,x4,e⟩:=Tm (l:=n.kids) (b:=[]) (i:=0) (ds:=[]) eD hk (by simp;omega) (by simp)
 rw [CQ,Fy hkl,List.drop_zero,e]
 rfl
theorem Rk {src a:Nd}:∀ {l:List Nd} {i:Nat} {ds:List Dg},ds.length≤20→AL (fun i y x=>B9 (VF src) a i y x) (fun x=>x) l i ds=(some (.inl (cap ds (l.flatMap (FH src a)))):Option (List Dg⊕(Unit×List Dg)))
 | [],i,ds,hd=>by rw [List.flatMap_nil,Ew hd];rfl
 | k::l,i,ds,hd=>by
   rw [AL,B9,List.flatMap_cons,← EW]
   simp only [BV,Ql hd,Option.bind_some,dV,Eb,Vt]
   have next:∀ {d2:List Dg},d2=cap ds (FH src a k)→(some (Lp.nx d2)).bind (Im (AL (fun i y x=>B9 (VF src) a i y x) (fun x=>x) l (i+1)))=(some (.inl (cap (cap ds (FH src a k)) (l.flatMap (FH src a)))):Option (List Dg⊕(Unit×List Dg))):=by
     rintro _ rfl
     exact Rk (Ev _ _)
   unfold FH
   by_cases h:k.n=a.n
   · rw [Ac h]
     have:=next (d2:=cap ds [⟨101,k.att⟩]) (by unfold FH;rw [Ac h])
     unfold FH at this
     rw [Ac h] at this ⊢
     exact this
   · rw [Ab h]
     by_cases h2:(fA src.kids k.n).isSome=true
     · rw [Ac h2]
       have hn:¬ fA src.kids k.n=none:=fun e=>by rw [e] at h2;cases h2
       have:=next (d2:=ds) (by unfold FH;rw [Ab h,Ab hn,Ew hd])
       unfold FH at this
       rw [Ab h] at this ⊢
       exact this
     · rw [Ab h2]
       have hn:fA src.kids k.n=none:=by simpa using h2
       have:=next (d2:=cap ds [⟨91,k.att⟩]) (by unfold FH;rw [Ab h,Ac hn])
       unfold FH at this
       rw [Ab h] at this ⊢
       exact this
theorem jK {src a x:Nd} (hok:FM x) (hc:B0 x) (hs:DG x≤2000) (h68:x.kind=6∨x.kind=7∨x.kind=8) {ds:List Dg} (hd:ds.length≤20):Bn (VF src) a x ds=some ((),cap ds (FI src a x)):=by
 obtain ⟨hps,hkl,hks⟩:=H7 hok
 rw [Bn]
 simp only [BV,B8,dV,Eb,Tf]
 unfold FI
 by_cases k7:x.kind=7
 · rw [Ac k7,Ac k7,Fy hkl,List.drop_zero,Rk hd];rfl
 rw [Ab k7,Ab k7]
 obtain ⟨h1,h2⟩:=hc.2.2 k7
 have hsz:=B6 x
 generalize x.kids=ks at *
 match ks,h1 with
 | [k],_ =>
 have hek:=h2 k (by simp)
 have hsk:DG k≤2000:=by simp [GR] at hsz;omega
 simp only [List.getElem?_cons_zero,Option.bind_some,List.flatMap_cons,List.flatMap_nil,List.append_nil]
 rw [mV hek hsk,cE src k hd]
 simp only [Option.bind_some]
 rw [Ql (Ev _ _)]
 simp only [Option.bind_some,EW]
 have key:∀ w:ByteArray,AB ((IM src k).1=ByteArray.empty) (some ((),cap ds (IM src k).2)) (AB (w=ByteArray.empty) (some ((),cap ds (IM src k).2)) (AB ((IM src k).1=w) (some ((),cap ds (IM src k).2)) (some ((),cap ds ((IM src k).2++[⟨11,k.att⟩])))))=some ((),cap ds (OK src w k)):=by
   intro w
   unfold OK
   by_cases a1:(IM src k).1=eS
   · rw [Ac a1,Ab fun q=>q.1 a1,List.append_nil]
   rw [Ab a1]
   by_cases a2:w=eS
   · rw [Ac a2,Ab fun q=>q.2.1 a2,List.append_nil]
   rw [Ab a2]
   by_cases a3:(IM src k).1=w
   · rw [Ac a3,Ab fun q=>q.2.2 a3,List.append_nil]
   rw [Ab a3,Ac ⟨a1,a2,a3⟩]
 by_cases k6:x.kind=6
 · rw [Ac k6,Ac k6];exact key Ak
 · rw [Ab k6,Ab k6];exact key (line src a.name)
theorem Pv {src a:Nd} {body:Nat→Nd→List Dg→Option (Lp (List Dg) (List Dg) (List Dg))} (hb:∀ i y x,body i y x=(Bn (VF src) a y x).bind fun (_,b)=>some (.nx b)) :
   ∀ {l:List Nd} {i:Nat} {ds:List Dg},(∀ x∈l,FM x∧B0 x∧DG x≤2000∧(x.kind=6∨x.kind=7∨x.kind=8))→ds.length≤20→AL body (fun x=>x) l i ds=(some (.inl (cap ds (l.flatMap (FI src a)))):Option (List Dg⊕List Dg))
 | [],i,ds,_,hd=>by rw [List.flatMap_nil,Ew hd];rfl
 | x::l,i,ds,h,hd=>by
   obtain ⟨h1,h2,h3,h4⟩:=h x (by simp)
   rw [AL,hb,jK h1 h2 h3 h4 hd,List.flatMap_cons,← EW]
   exact Pv hb (fun y hy=>h y (by simp [hy])) (Ev _ _)
theorem QC {src:Nd}:∀ {l:List Nd} {i:Nat} {c:Nat} {ds:List Dg},(∀ a∈l,FM a∧FW a∧DG a≤2000)→c+l.length≤9223372036854775807→ds.length≤20→∃ z,AL (fun i y x=>Gr (VF src) i y x.1 x.2) (fun x=>x.2) l i (((c:Nat):Int),ds)=(some (.inl z):Option (List Dg⊕List Dg))∧z=cap ds (Ju src c l)
 | [],i,c,ds,_,_,hd=>⟨ds,rfl,by rw [Ju,Ew hd]⟩
 | a::l,i,c,ds,h,hc,hd=>by
   simp only [List.length_cons] at hc
   obtain ⟨hok,hit,hsz⟩:=h a (by simp)
   obtain ⟨hps,hkl,hks⟩:=H7 hok
   rw [AL,Gr,Ju,← EW]
   simp only [BV,Di,B8,dV,Eb,Ql hd,Option.bind_some,Tf,Vt]
   unfold T7
   by_cases k4:a.kind=4
   rotate_left
   · rw [Ab k4,Ab k4,Ew hd]
     have e:c+Bi 4 [a]=c:=by simp [Bi,k4]
     rw [e]
     exact QC (fun y hy=>h y (by simp [hy])) (by omega) hd
   rw [Ac k4,Ac k4]
   obtain ⟨_,_,_,x,cs,hkids,hkin,_,_,_,hcl⟩:=(sF k4).1 hit
   have e:c+Bi 4 [a]=c+1:=by simp [Bi,k4]
   rw [e]
   have hcs:∀ y∈cs,FM y∧B0 y∧DG y≤2000∧(y.kind=6∨y.kind=7∨y.kind=8):=by
     intro y hy
     have hm:y∈a.kids:=by rw [hkids];simp [hy]
     have:=hkin y hy
     exact ⟨hks y hm,hcl y hy,by have:=JQ hm;omega,by omega⟩
   have hsub:Jv a.kids 1 ((a.kids.length:Nat):Int)=some cs:=by
     unfold Jv
     rw [hkids,if_pos (by simp only [List.length_cons];omega)]
     simp
   have hcl':cs.length≤9223372036854775807:=by rw [hkids] at hkl;simp at hkl;omega
   rw [hsub]
   simp only [Option.bind_some,List.drop_zero,Fy hcl']
   rw [Ce (by omega)]
   have htail:a.kids.tail=cs:=by rw [hkids];rfl
   rw [htail]
   have next:∀ {body:Nat→Nd→List Dg→Option (Lp (List Dg) (List Dg) (List Dg))} {d0:List Dg},(∀ i y x,body i y x=(Bn (VF src) a y x).bind fun (_,b)=>some (.nx b))→d0=cap ds (Gw src c a) →
       ∃ z,(((AL body (fun x=>x) cs 0 d0).bind (GQ (fun (w:List Dg)=>some (Lp.nx (((c:Nat):Int)+1,w))) (fun v=>some (.rt v)))).bind (Im (AL (fun i y x=>Gr (VF src) i y x.1 x.2) (fun x=>x.2) l (i+1))))=(some (.inl z):Option (List Dg⊕List Dg))∧z=cap (cap ds (Gw src c a++cs.flatMap (FI src a))) (Ju src (c+1) l):=by
     rintro body _ hb rfl
     rw [Pv hb hcs (Ev _ _),EW]
     have ih:=QC (src:=src) (l:=l) (i:=i+1) (c:=c+1) (ds:=cap ds (Gw src c a++cs.flatMap (FI src a))) (fun y hy=>h y (by simp [hy])) (by omega) (Ev _ _)
     rw [show (((c+1:Nat)):Int)=((c:Nat):Int)+1 by omega] at ih
     exact ih
   unfold Gw
   by_cases hl:(fU 3 src.kids a.name).isSome=true
   · have hn:¬ fU 3 src.kids a.name=none:=fun e=>by rw [e] at hl;cases hl
     rw [Ac hl]
     by_cases h60:60≤c
     · rw [Ac (by omega),Ac h60]
       have:=next (body:=fun i y x=>I3 (VF src) a i y x) (d0:=cap ds [⟨2,a.att⟩]) (fun i y x=>rfl) (by unfold Gw;rw [Ac h60])
       unfold Gw at this
       rw [Ac h60] at this
       exact this
     · rw [Ab (by omega),Ab h60,Ab hn]
       by_cases hA:(fA src.kids a.n).getD ByteArray.empty=a.name
       · rw [Ac hA]
         have:=next (body:=fun i y x=>IZ (VF src) a i y x) (d0:=ds) (fun i y x=>rfl) (by unfold Gw;rw [Ab h60,Ab hn,Ab (fun q=>q hA),Ew hd])
         unfold Gw at this
         rw [Ab h60,Ab hn] at this
         exact this
       · rw [Ab hA]
         have:=next (body:=fun i y x=>Jc (VF src) a i y x) (d0:=cap ds [⟨101,a.att⟩]) (fun i y x=>rfl) (by unfold Gw;rw [Ab h60,Ab hn,Ac hA])
         unfold Gw at this
         rw [Ab h60,Ab hn] at this
         exact this
   · have hn:fU 3 src.kids a.name=none:=by simpa using hl
     rw [Ab hl]
     by_cases h60:60≤c
     · rw [Ac (by omega),Ac h60]
       have:=next (body:=fun i y x=>Jp (VF src) a i y x) (d0:=cap ds [⟨2,a.att⟩]) (fun i y x=>rfl) (by unfold Gw;rw [Ac h60])
       unfold Gw at this
       rw [Ac h60] at this
       exact this
     · rw [Ab (by omega),Ab h60,Ac hn]
       have:=next (body:=fun i y x=>IS (VF src) a i y x) (d0:=cap ds [⟨91,a.att⟩]) (fun i y x=>rfl) (by unfold Gw;rw [Ab h60,Ac hn])
       unfold Gw at this
       rw [Ab h60,Ac hn] at this
       exact this
theorem RF {n:Nd} (h:Rb n) (hk:n.kind=1):DQ n z0∧(∀ k∈n.kids,FW k)∧DG n≤2000∧L3 n≤40:=by
 obtain ⟨a | a,b⟩:=h
 · exact ⟨a.2.1,a.2.2,b⟩
 · exact absurd hk a.1
theorem rM {src:Nd} (hs:FM src):GU src=some (G2 src):=by
 obtain ⟨hps,hkl,hks⟩:=H7 hs
 rw [GU,ZR hs,qH hs]
 simp only [Option.bind_some,BV,BH]
 unfold G2
 by_cases k1:src.kind=1
 rotate_left
 · rw [Ab k1,Ab fun q=>k1 q.1]
 rw [Ac k1]
 by_cases v:Rb src
 rotate_left
 · rw [Ab v,Ab fun q=>v q.2]
 rw [Ac v,Ac ⟨k1,v⟩]
 obtain ⟨_,hit,hsz,_⟩:=RF v k1
 have hkind:∀ a∈src.kids,a.kind=2∨a.kind=3∨a.kind=4:=fun a ha=>VM (hit a ha)
 rw [show G8=some () from rfl,nK hs hkind]
 simp only [Option.bind_some]
 rw [Fy hkl,List.drop_zero]
 obtain ⟨z,e,rfl⟩:=QC (src:=src) (l:=src.kids) (i:=0) (c:=0) (ds:=cap [] (Fs [] src.kids)) (fun a ha=>⟨hks a ha,hit a ha,by have:=JQ ha;omega⟩) (by omega) (Ev _ _)
 have e':(((0:Nat):Int))=0:=rfl
 rw [e'] at e
 rw [e,EW]
 rfl
end Mo
end Go.Proofs.YtnijkdknnmgoeaaGreat
namespace Go.Proofs.YtnijkdknnmgoeaaGreat
open AI Go
namespace Mo
set_option maxRecDepth 100000
set_option maxHeartbeats 4000000
theorem Ww {F:ByteArray→ByteArray} {A:Int→ByteArray} {e:Nd} (h:(OB F A e).2=[]):(∀ k∈e.kids,(OB F A k).2=[])∧((∀ u∈(J9 F A e.kids).1,u≠eS)→HH F A e (J9 F A e.kids).1≠eS):=by
 have hr:(J9 F A e.kids).2=[]∧((∀ u∈(J9 F A e.kids).1,u≠eS)→HH F A e (J9 F A e.kids).1≠eS):=by
   rw [QH] at h
   unfold Xz at h
   generalize J9 F A e.kids=r at *
   by_cases h1:∀ u∈r.1,u≠eS
   · rw [Ac h1] at h
     by_cases h2:HH F A e r.1=eS
     · rw [Ac h2] at h;exact absurd h (by simp)
     · rw [Ab h2] at h;exact ⟨h,fun _=>h2⟩
   · rw [Ab h1] at h;exact ⟨h,fun q=>absurd q h1⟩
 refine ⟨fun k hk=>?_,hr.2⟩
 have hr:=hr.1
 rw [Mv] at hr
 exact List.flatMap_eq_nil_iff.1 hr k hk
theorem X5 {k:Int} {x:ByteArray}:∀ {l:List Nd},fU k l x≠none→∃ a∈l,a.kind=k∧a.name=x
 | [],h=>absurd (by rw [fU]) h
 | a::l,h=>by
   rcases V1 h with h | h
   · exact ⟨a,by simp,h⟩
   · obtain ⟨b,hb,h⟩:=X5 h
     exact ⟨b,by simp [hb],h⟩
def S0 (src:Nd):Prop:=∀ a∈src.kids,a.kind=4→(fA src.kids a.n).getD eS=a.name∧fU 3 src.kids a.name≠none
theorem aaB {src:Nd} (hit:∀ k∈src.kids,FW k) (hart:S0 src):∀ (m:Nat) (e:Nd),DG e≤m→Lv e→(IM src e).2=[]→Md (Fj src.kids) e:=by
 intro m
 induction m with
 | zero=>intro e h;have:=B6 e;omega
 | succ m ih =>
   intro e hm he hd
   obtain ⟨hq,hks⟩:=(JL e).1 he
   obtain ⟨hk0,hu⟩:=Ww hd
   rw [UA]
   have hun:e.kids.length=0→HH (fact src) (XO src) e []≠eS:=fun h=>by
     have hn:=List.eq_nil_of_length_eq_zero h
     rw [hn,J9] at hu
     exact hu (by simp)
   unfold NW at hq
   refine ⟨fun k=>?_,fun k=>?_,fun k=>?_,fun k=>?_,fun k=>?_,fun k hk=>ih k (by have:=JQ hk;omega) (hks k hk) (hk0 k hk)⟩
   · rcases hq with h | h | h | h | h | h | h | h<;>first | (have:=h.1;omega) | (have:=h.2.2.1;omega)
   · rcases hq with h | h | h | h | h | h | h | h<;>first | (have:=h.1;omega) | (have:=h.2.2.2;omega)
   · have hl:e.kids.length=0:=by
       rcases hq with h | h | h | h | h | h | h | h<;>first | (have:=h.1;omega) | exact h.2.2.1
     have h:=hun hl
     unfold HH at h
     rw [Ab (by omega),Ac k] at h
     refine rH (fun hn=>h ?_)
     unfold fact
     rw [hn];rfl
   · have hl:e.kids.length=0:=by
       rcases hq with h | h | h | h | h | h | h | h<;>first | (have:=h.1;omega) | exact h.2.2.1
     have h:=hun hl
     unfold HH at h
     rw [Ab (by omega),Ab (by omega),Ac k] at h
     unfold XO line at h
     have h3:fU 3 src.kids ((fA src.kids e.n).getD eS)≠none:=fun hn=>h (by rw [hn];rfl)
     cases hfa:fA src.kids e.n with
     | none =>
       rw [hfa] at h3
       obtain ⟨a,ha,ha1,ha2⟩:=X5 h3
       have h4:=((it3 ha1).1 (hit a ha)).1
       rw [ha2] at h4
       exact absurd h4 (by unfold FK;simp [eS])
     | some w =>
       rw [hfa] at h3
       refine aaA (w:=w) (fun a ha a4 an=>?_) (by rw [hfa];simp) h3
       have:=(hart a ha a4).1
       rw [an,hfa] at this
       exact this.symm
   · rcases hq with h | h | h | h | h | h | h | h<;>first | (have:=h.1;omega) | (have:=h.2.2.1;unfold Uc at this;omega)
end Mo
end Go.Proofs.YtnijkdknnmgoeaaGreat
namespace Go.Proofs.YtnijkdknnmgoeaaGreat
open AI Go
namespace Mo
set_option maxRecDepth 100000
set_option maxHeartbeats 4000000
theorem QF {src:Nd}:∀ {l:List Nd} {c:Nat},Ju src c l=[]→∀ a∈l,∃ c',T7 src c' a=[]
 | [],_,_,a,ha=>by cases ha
 | b::l,c,h,a,ha=>by
   rw [Ju,List.append_eq_nil_iff] at h
   rcases List.mem_cons.1 ha with rfl | ha
   · exact ⟨_,h.1⟩
   · exact QF h.2 a ha
theorem dI {src:Nd} {c:Nat} {a:Nd} (h:Gw src c a=[]):(fA src.kids a.n).getD eS=a.name∧fU 3 src.kids a.name≠none:=by
 unfold Gw at h
 by_cases h1:60≤c
 · rw [Ac h1] at h;cases h
 rw [Ab h1] at h
 by_cases h2:fU 3 src.kids a.name=none
 · rw [Ac h2] at h;cases h
 rw [Ab h2] at h
 by_cases h3:(fA src.kids a.n).getD eS≠a.name
 · rw [Ac h3] at h;cases h
 · exact ⟨by simpa using h3,h2⟩
theorem U9 {src:Nd} (hv:Rb src) (hk:src.kind=1) (hc:G2 src=[]):OT src=[]:=by
 unfold G2 at hc
 rw [Ac ⟨hk,hv⟩] at hc
 unfold cap at hc
 rw [List.nil_append] at hc
 rcases List.take_eq_nil_iff.1 hc with h | h
 · omega
 · exact h
theorem checked {src:Nd} (hv:Rb src) (hk:src.kind=1) (hc:G2 src=[]):S0 src∧∀ it∈src.kids,it.kind=4→aJ (Fj src.kids) it:=by
 have hr:=U9 hv hk hc
 unfold OT at hr
 have hr:=(List.append_eq_nil_iff.1 hr).2
 obtain ⟨_,hit,_,_⟩:=RF hv hk
 have hh:∀ a∈src.kids,a.kind=4→(∃ c,Gw src c a=[])∧∀ x∈a.kids.tail,FI src a x=[]:=fun a ha k4=>by
   obtain ⟨c,h⟩:=QF hr a ha
   unfold T7 at h
   rw [Ac k4,List.append_eq_nil_iff] at h
   exact ⟨⟨c,h.1⟩,List.flatMap_eq_nil_iff.1 h.2⟩
 have hart:S0 src:=fun a ha k4=>by
   obtain ⟨c,h⟩:=(hh a ha k4).1
   exact dI h
 refine ⟨hart,fun it hi k4=>?_⟩
 obtain ⟨_,_,_,h,cs,hkids,_,_,_,_,hcl⟩:=(sF k4).1 (hit it hi)
 refine ⟨by rw [hkids];simp,fun e he k7=>?_⟩
 have hce:=(hh it hi k4).2 e he
 rw [hkids,List.tail_cons] at he
 obtain ⟨hl,hex⟩:=(hcl e he).2.2 k7
 cases hek:e.kids with
 | nil=>rw [hek] at hl;cases hl
 | cons k l =>
   refine ⟨k,rfl,?_⟩
   have hkm:k∈e.kids:=by rw [hek];simp
   unfold FI at hce
   rw [Ab k7] at hce
   have hw:=List.flatMap_eq_nil_iff.1 hce k hkm
   unfold OK at hw
   exact aaB hit hart (DG k) k (Nat.le_refl _) (hex k hkm) (List.append_eq_nil_iff.1 hw).1
noncomputable def DE (n:Nd):Co×List Dg :=
 AB (n.kind=1∧Rb n) (AB (G2 n=[]) (AB ((Ls (Fj n.kids) n.kids).1=[]) (⟨(Fj n.kids).codex.facts,(Fj n.kids).codex.lines,(Ls (Fj n.kids) n.kids).2⟩,[]) (⟨[],[],[]⟩,(Ls (Fj n.kids) n.kids).1.take 20)) (⟨[],[],[]⟩,G2 n)) (⟨[],[],[]⟩,[⟨1,0⟩])
theorem U4 {n:Nd} (hn:FM n) (hz:DG n≤100000):DK n=some (DE n):=by
 unfold DE
 have hV:=ZR hn
 have hC:=rM hn
 by_cases hk:n.kind=1
 rotate_left
 · rw [Ab (fun q=>hk q.1),DK,HN,Ab hk]
 by_cases hv:Rb n
 rotate_left
 · rw [Ab (fun q=>hv q.2),DK,HN,Ac hk,hV,Option.bind_some,BH,Ab hv]
 rw [Dh (q:=True) ⟨fun _=>trivial,fun _=>hv⟩,← tL] at hV
 rw [Ac ⟨hk,hv⟩]
 by_cases hc:G2 n=[]
 · rw [Ac hc]
   rw [hc] at hC
   exact oD hk hV hC hz (checked hv hk hc).2
 · rw [Ab hc,DK,HN,Ac hk,hV,Option.bind_some,cond_true,hC,Option.bind_some,Xo,Ac]
   have:=List.length_pos_iff.2 hc
   omega
theorem Su {n:Nd} (h:(DE n).2=[]):n.kind=1∧Rb n∧G2 n=[]∧(Ls (Fj n.kids) n.kids).1=[]∧DE n=(⟨(Fj n.kids).codex.facts,(Fj n.kids).codex.lines,(Ls (Fj n.kids) n.kids).2⟩,[]):=by
 unfold DE at h ⊢
 by_cases h1:n.kind=1∧Rb n
 rotate_left
 · rw [Ab h1] at h;cases h
 rw [Ac h1] at h ⊢
 by_cases h2:G2 n=[]
 rotate_left
 · rw [Ab h2] at h;exact absurd h h2
 rw [Ac h2] at h ⊢
 by_cases h3:(Ls (Fj n.kids) n.kids).1=[]
 · rw [Ac h3];exact ⟨h1.1,h1.2,h2,h3,rfl⟩
 · rw [Ab h3] at h
   rcases List.take_eq_nil_iff.1 h with h | h
   · omega
   · exact absurd h h3
end Mo
end Go.Proofs.YtnijkdknnmgoeaaGreat
namespace Go.Proofs.YtnijkdknnmgoeaaGreat
open AI Go
namespace Mo
set_option maxRecDepth 100000
set_option maxHeartbeats 4000000
def Oz (k:Int) (l:List Nd):List Nd:=l.filter fun a=>decide (a.kind=k)
theorem KR {k:Int} {a:Nd} (h:a.kind=k) (l:List Nd):Oz k (a::l)=a::Oz k l:=by
 unfold Oz;rw [List.filter_cons,if_pos (by simpa using h)]
theorem Km {k:Int} {a:Nd} (h:a.kind≠k) (l:List Nd):Oz k (a::l)=Oz k l:=by
 unfold Oz;rw [List.filter_cons,if_neg (by simpa using h)]
theorem JU {k:Int} {l:List Nd} {a:Nd}:a∈Oz k l↔a∈l∧a.kind=k:=by
 unfold Oz;rw [List.mem_filter];simp
theorem KM (k:Int) (l:List Nd):(Oz k l).length=Bi k l:=by
 induction l with
 | nil=>rfl
 | cons a l ih =>
   rw [Bi]
   by_cases h:a.kind=k
   · rw [KR h,if_pos h,List.length_cons,ih];omega
   · rw [Km h,if_neg h,ih];omega
def yS (a:Nd):Dc:=⟨a.name,a.unit,0⟩
def dcL (a:Nd):Dc:=⟨a.name,a.unit,a.n⟩
theorem Sd:∀ (l:List Nd) (s:List Dc×Mm ByteArray Int×List Dc×Mm ByteArray Int),(l.foldl P6 s).1=s.1++(Oz 2 l).map yS∧(l.foldl P6 s).2.2.1=s.2.2.1++(Oz 3 l).map dcL
 | [],s=>by simp [Oz]
 | a::l,s=>by
   rw [List.foldl_cons]
   obtain ⟨h1,h2⟩:=Sd l (P6 s a)
   rw [h1,h2]
   unfold P6
   by_cases k2:a.kind=2
   · rw [Ac k2,KR k2,Km (by omega)]
     simp [yS]
   rw [Ab k2]
   by_cases k3:a.kind=3
   · rw [Ac k3,Km k2,KR k3]
     simp [dcL]
   · rw [Ab k3,Km k2,Km k3]
     exact ⟨rfl,rfl⟩
theorem RX (l:List Nd):(Fj l).codex.facts=(Oz 2 l).map yS:=by
 show (FJ l).1=_
 unfold FJ
 rw [(Sd l _).1];rfl
theorem RL (l:List Nd):(Fj l).codex.lines=(Oz 3 l).map dcL:=by
 show (FJ l).2.2.1=_
 unfold FJ
 rw [(Sd l _).2];rfl
theorem SP (t:Tr):∀ (l:List Nd) (s:List Dg×List Ar),(l.foldl (b1 t) s).1=s.1++(Oz 4 l).flatMap (fun a=>(D8 t a.kids.tail).1)∧(l.foldl (b1 t) s).2=s.2++(Oz 4 l).map (Pr t)
 | [],s=>by simp [Oz]
 | a::l,s=>by
   rw [List.foldl_cons]
   obtain ⟨h1,h2⟩:=SP t l (b1 t s a)
   rw [h1,h2]
   unfold b1
   by_cases k4:a.kind=4
   · rw [Ac k4,KR k4]
     simp
   · rw [Ab k4,Km k4]
     exact ⟨rfl,rfl⟩
theorem XB (t:Tr) (l:List Nd):(Ls t l).2=(Oz 4 l).map (Pr t):=by
 unfold Ls;rw [(SP t l _).2];rfl
theorem iF {t:Tr} {l:List Nd} (h:(Ls t l).1=[]) {a:Nd} (ha:a∈l) (k4:a.kind=4):(D8 t a.kids.tail).1=[]:=by
 unfold Ls at h
 rw [(SP t l _).1,List.nil_append] at h
 exact List.flatMap_eq_nil_iff.1 h a (JU.2 ⟨ha,k4⟩)
theorem Xg {α:Type} {l m:List α} {z:Int} {x:α} (h:CP l z=some x):CP (l++m) z=some x:=by
 unfold CP at h ⊢
 by_cases hz:0≤z
 · rw [if_pos hz] at h ⊢
   rw [List.getElem?_append_left (List.getElem?_eq_some_iff.1 h).1,h]
 · rw [if_neg hz] at h;cases h
theorem WB {α:Type} (l:List α) (x:α):CP (l++[x]) ((l.length:Nat):Int)=some x:=by
 unfold CP
 rw [if_pos (by omega)]
 simp
def ntN (s:List Dc×Mm ByteArray Int×List Dc×Mm ByteArray Int):Prop:=(∀ x i,s.2.1.get x=some i→∃ d,CP s.1 i=some d∧d.name=x)∧(∀ x i,s.2.2.2.get x=some i→∃ d,CP s.2.2.1 i=some d∧d.name=x)
theorem abf {s:List Dc×Mm ByteArray Int×List Dc×Mm ByteArray Int} (h:ntN s) (e:Nd):ntN (P6 s e):=by
 obtain ⟨h1,h2⟩:=h
 unfold P6
 by_cases k2:e.kind=2
 · rw [Ac k2]
   refine ⟨fun x i hx=>?_,h2⟩
   simp only at hx ⊢
   rw [Mm.Dz] at hx
   split at hx
   · rename_i hq;cases hx;exact ⟨_,WB _ _,hq.symm⟩
   · obtain ⟨d,hd,hn⟩:=h1 x i hx;exact ⟨d,Xg hd,hn⟩
 rw [Ab k2]
 by_cases k3:e.kind=3
 · rw [Ac k3]
   refine ⟨h1,fun x i hx=>?_⟩
   simp only at hx ⊢
   rw [Mm.Dz] at hx
   split at hx
   · rename_i hq;cases hx;exact ⟨_,WB _ _,hq.symm⟩
   · obtain ⟨d,hd,hn⟩:=h2 x i hx;exact ⟨d,Xg hd,hn⟩
 rw [Ab k3]
 exact ⟨h1,h2⟩
theorem aa1:∀ (l:List Nd) (s:List Dc×Mm ByteArray Int×List Dc×Mm ByteArray Int),ntN s→ntN (l.foldl P6 s)
 | [],_,h=>h
 | a::l,s,h=>by rw [List.foldl_cons];exact aa1 l _ (abf h a)
theorem tK (l:List Nd):ntN (FJ l):=aa1 l _ ⟨fun x i h=>by simp [Mm.get_nil] at h,fun x i h=>by simp [Mm.get_nil] at h⟩
def S8 (a b:Nd):Prop:=(b.kind=2∨b.kind=3)→a.kind=b.kind→a.name≠b.name
theorem U3 {b:List Nd} {a:Nd} (h:Ik b a=[]) (hk:a.kind=2∨a.kind=3):(∀ c∈b,c.kind=a.kind→c.name≠a.name)∧Bi a.kind b < 32:=by
 unfold Ik at h
 rw [Ac hk] at h
 by_cases h1:∃ c∈b,c.kind=a.kind∧c.name=a.name
 · rw [Ac h1] at h;cases h
 rw [Ab h1] at h
 by_cases h2:32≤Bi a.kind b
 · rw [Ac h2] at h;cases h
 exact ⟨fun c hc k q=>h1 ⟨c,hc,k,q⟩,by omega⟩
theorem TV:∀ {l b:List Nd},Fs b l=[]→(∀ c∈b,∀ a∈l,S8 c a)∧l.Pairwise S8∧∀ k,k=2∨k=3→Bi k b≤32→Bi k (b++l)≤32
 | [],b,_=>⟨fun _ _ a ha=>(nomatch ha),.nil,fun k _ h=>by rwa [List.append_nil]⟩
 | a::l,b,h=>by
   rw [Fs,List.append_eq_nil_iff] at h
   obtain ⟨h1,h2,h3⟩:=TV h.2
   have hd:∀ c∈b,S8 c a:=fun c hc hk q=>(U3 h.1 hk).1 c hc q
   refine ⟨fun c hc y hy=>?_,.cons (fun y hy=>h1 a (by simp) y hy) h2,fun k hk hb=>?_⟩
   · rcases List.mem_cons.1 hy with rfl | hy
     · exact hd c hc
     · exact h1 c (by simp [hc]) y hy
   · have:=h3 k hk (by
       rw [Mj]
       simp only [Bi]
       by_cases hak:a.kind=k
       · subst hak
         have:=(U3 h.1 hk).2
         simp;omega
       · rw [if_neg hak];omega)
     rwa [List.append_assoc] at this
theorem kG {k:Int} (hk:k=2∨k=3):∀ {l:List Nd},l.Pairwise S8→∀ {a:Nd},a∈l→a.kind=k→fU k l a.name=some a.unit
 | [],_,a,h,_=>by cases h
 | b::l,hp,a,h,ha=>by
   rw [List.pairwise_cons] at hp
   rw [fU]
   rcases List.mem_cons.1 h with rfl | h
   · rw [Ac ⟨ha,rfl⟩]
   · rw [Ab fun q=>hp.1 a h (by omega) (by omega) q.2]
     exact kG hk hp.2 h ha
theorem Xm {α:Type} {l:List α} {z:Int} {x:α} (h:CP l z=some x):x∈l:=by
 unfold CP at h
 by_cases hz:0≤z
 · rw [if_pos hz] at h;exact List.mem_of_getElem? h
 · rw [if_neg hz] at h;cases h
theorem nQ {l:List Nd} (hp:l.Pairwise S8) {x:ByteArray} (h:fU 2 l x≠none):∃ i d,(Fj l).facts.get x=some i∧CP (Fj l).codex.facts i=some d∧d.name=x∧fU 2 l x=some d.unit:=by
 obtain ⟨h1,h2,_⟩:=PJ l ([],Mm.nil,[],Mm.nil) R2
 have h2:(FJ l).2.1.get x≠none:=h2 x (.inr h)
 cases hg:(FJ l).2.1.get x with
 | none=>exact absurd hg h2
 | some i =>
   obtain ⟨d,hd,hn⟩:=(tK l).1 x i hg
   refine ⟨i,d,hg,hd,hn,?_⟩
   have hm:=Xm hd
   rw [show (FJ l).1=(Oz 2 l).map yS from RX l] at hm
   obtain ⟨a,ha,rfl⟩:=List.mem_map.1 hm
   obtain ⟨ha,hk⟩:=JU.1 ha
   have:=kG (.inl rfl) hp ha hk
   rw [← hn]
   exact this
theorem m5 {l:List Nd} (hp:l.Pairwise S8) {x:ByteArray} (h:fU 3 l x≠none):∃ i d,(Fj l).lines.get x=some i∧CP (Fj l).codex.lines i=some d∧d.name=x∧fU 3 l x=some d.unit:=by
 obtain ⟨h1,_,h2⟩:=PJ l ([],Mm.nil,[],Mm.nil) R2
 have h2:(FJ l).2.2.2.get x≠none:=h2 x (.inr h)
 cases hg:(FJ l).2.2.2.get x with
 | none=>exact absurd hg h2
 | some i =>
   obtain ⟨d,hd,hn⟩:=(tK l).2 x i hg
   refine ⟨i,d,hg,hd,hn,?_⟩
   have hm:=Xm hd
   rw [show (FJ l).2.2.1=(Oz 3 l).map dcL from RL l] at hm
   obtain ⟨a,ha,rfl⟩:=List.mem_map.1 hm
   obtain ⟨ha,hk⟩:=JU.1 ha
   have:=kG (.inr rfl) hp ha hk
   rw [← hn]
   exact this
theorem QO {src:Nd}:∀ {l:List Nd} {c:Nat},Ju src c l=[]→c≤60→c+Bi 4 l≤60
 | [],c,_,h=>by simpa [Bi] using h
 | a::l,c,h,hc=>by
   rw [Ju,List.append_eq_nil_iff] at h
   by_cases k4:a.kind=4
   · have h1:=h.1
     unfold T7 at h1
     rw [Ac k4,List.append_eq_nil_iff] at h1
     have h2:=h1.1
     unfold Gw at h2
     by_cases h6:60≤c
     · rw [Ac h6] at h2;cases h2
     have:=QO h.2 (by simp only [Bi,if_pos k4];omega)
     simp only [Bi,if_pos k4] at this ⊢
     omega
   · have:=QO h.2 (by simp only [Bi,if_neg k4];omega)
     simp only [Bi,if_neg k4] at this ⊢
     omega
end Mo
end Go.Proofs.YtnijkdknnmgoeaaGreat
namespace Go.Proofs.YtnijkdknnmgoeaaGreat
open AI Go
namespace Mo
namespace V
def Ns (s:ByteArray):Prop:=s.data.toList.length=3∧∀ c∈s.data.toList,65≤c.toNat∧c.toNat≤90
def EB (s:ByteArray):Prop:=s=Ak∨s=AF∨s=BM∨Ns s
def Nf (c:UInt8):Prop:=(97≤c.toNat∧c.toNat≤122)∨(48≤c.toNat∧c.toNat≤57)∨c.toNat=95
def Q9:List ByteArray:=[Tn,S3,KY,Y5,Sn,SY,u6,Pg,TB,MI,MC,Ak,AF,BM,X6,SV,M8,Pb,Tp,Um,IP,YV,U0,SA,O6,XX,EV,Oo,H8,Ks,Jt,Ec,O9]
def FK (s:ByteArray):Prop:=(1≤s.data.toList.length∧s.data.toList.length≤16)∧(∃ b,s.data.toList[0]?=some b∧97≤b.toNat∧b.toNat≤122)∧s∉Q9∧∀ c∈s.data.toList,Nf c
theorem Lg {α:Type} {l:List α} {P:α→Prop}:(∀ (i:Nat) (y:α),l[i]?=some y→P y)↔∀ y∈l,P y :=
 ⟨fun h y hy=>(List.getElem?_of_mem hy).elim fun i hi=>h i y hi,fun h i y hi=>h y (List.mem_of_getElem? hi)⟩
end V
end Mo
end Go.Proofs.YtnijkdknnmgoeaaGreat
namespace Go.Proofs.YtnijkdknnmgoeaaGreat
open AI Go
namespace Mo
namespace V
mutual
def Kv:Ex→Nat
 | ⟨_,_,_,_,ks⟩=>1+Mu ks
def Mu:List Ex→Nat
 | []=>0
 | k::ks=>Kv k+Mu ks
end
mutual
def dp:Ex→Nat
 | ⟨_,_,_,_,ks⟩=>1+gR ks
def gR:List Ex→Nat
 | []=>0
 | k::ks=>max (dp k) (gR ks)
end
mutual
def lM:Ex→Prop
 | ⟨op,n,unit,tab,kids⟩=>tab.ps.length≤9223372036854775807∧kids.length≤9223372036854775807∧okS kids
def okS:List Ex→Prop
 | []=>True
 | k::ks=>lM k∧okS ks
end
theorem Y8 (e:Ex):Kv e=1+Mu e.kids:=by cases e;rw [Kv]
theorem acG (e:Ex):dp e=1+gR e.kids:=by cases e;rw [dp]
theorem qQ {l:List Ex}:okS l↔∀ k∈l,lM k:=by
 induction l with
 | nil=>simp [okS]
 | cons k l ih=>simp [okS,ih]
theorem Z0 (e:Ex):lM e↔e.tab.ps.length≤9223372036854775807∧e.kids.length≤9223372036854775807∧∀ k∈e.kids,lM k:=by cases e;rw [lM,qQ]
theorem Wq (l m:List Ex):Mu (l++m)=Mu l+Mu m:=by
 induction l with
 | nil=>simp [Mu]
 | cons k l ih=>simp only [List.cons_append,Mu,ih];omega
theorem dS {l:List Ex} {i:Nat} {y:Ex} (h:l[i]?=some y):Mu (l.take (i+1))=Mu (l.take i)+Kv y:=by
 rw [List.take_add_one,h,Wq];simp [Mu]
theorem cK (l:List Ex) (i:Nat):Mu (l.take i)≤Mu l:=by
 have:=Wq (l.take i) (l.drop i)
 rw [List.take_append_drop] at this
 omega
theorem gY {l:List Ex} {k:Ex} (h:k∈l):Kv k≤Mu l:=by
 induction l with
 | nil=>cases h
 | cons a l ih =>
   rw [Mu]
   rcases List.mem_cons.1 h with rfl | h
   · omega
   · have:=ih h;omega
theorem kE {l:List Ex} {d:Nat}:gR l≤d↔∀ k∈l,dp k≤d:=by
 induction l with
 | nil=>simp [gR]
 | cons k l ih=>simp only [gR,List.mem_cons,forall_eq_or_imp,← ih];omega
theorem Zi {e k:Ex} (h:k∈e.kids):Kv k < Kv e:=by
 have:=gY h
 rw [Y8 e];omega
theorem VC (e:Ex):0 < Kv e:=by rw [Y8];omega
def smE (e:Ex):Prop:=Kv e≤400∧dp e≤40
def jI (l:List Dc) (lo hi:Int) (i:Nat) (d:Dc):Prop:=FK d.name∧EB d.unit∧lo≤d.role∧d.role≤hi∧∀ (j:Nat) e,j < i→l[j]?=some e→e.name≠d.name
def Pa (l:List Dc) (lo hi:Int):Prop:=∀ (i:Nat) d,l[i]?=some d→jI l lo hi i d
end V
end Mo
end Go.Proofs.YtnijkdknnmgoeaaGreat
namespace Go.Proofs.YtnijkdknnmgoeaaGreat
open AI Go
namespace Mo
namespace V
set_option maxRecDepth 100000
theorem Mx {α:Type} {l:List α} {z:Int} (h0:0≤z) (h1:z < ((l.length:Nat):Int)):∃ x,CP l z=some x∧l[z.toNat]?=some x:=by
 have h2:z.toNat < l.length:=by omega
 unfold CP
 rw [if_pos h0,List.getElem?_eq_getElem h2]
 exact ⟨_,rfl,rfl⟩
theorem aG {α:Type} {l:List α} {z:Int} {x:α} (h:CP l z=some x):(0≤z∧z < ((l.length:Nat):Int))∧l[z.toNat]?=some x:=by
 unfold CP at h
 split at h
 · have:=(List.getElem?_eq_some_iff.1 h).1
   exact ⟨by omega,h⟩
 · cases h
theorem Mb {α:Type} {l:List α} {i:Nat}:CP l ((i:Nat):Int)=l[i]?:=by
 unfold CP;rw [if_pos (by omega)];rfl
def FN (l:List Ar) (z:Int):Option Int:=(l.find? (fun a=>decide (a.number=z))).map Ar.line
def Y7 (e:Ex):Prop:=0≤e.n∧e.n≤999999999999∧(e.unit=Ak→e.n≤1)
def Mk (c:Co) (e:Ex):Prop:=(e.op=1∧Y7 e)∨(e.op=2∧∃ d,CP c.facts e.n=some d∧e.unit=d.unit)∨(e.op=3∧∃ l d,FN c.arts e.n=some l∧CP c.lines l=some d∧e.unit=d.unit)∨(e.op=4∧1≤e.n∧e.n≤4∧e.unit=AF)
theorem acB {c:Co} {e:Ex} (h:e.op=1):Mk c e↔Y7 e:=by unfold Mk;simp [h]
theorem acR {c:Co} {e:Ex} (h:e.op=2):Mk c e↔∃ d,CP c.facts e.n=some d∧e.unit=d.unit:=by unfold Mk;simp [h]
theorem ab9 {c:Co} {e:Ex} (h:e.op=3):Mk c e↔∃ l d,FN c.arts e.n=some l∧CP c.lines l=some d∧e.unit=d.unit:=by unfold Mk;simp [h]
theorem abH {c:Co} {e:Ex} (h:e.op=4):Mk c e↔1≤e.n∧e.n≤4∧e.unit=AF:=by unfold Mk;simp [h]
theorem acF {c:Co} {e:Ex} (h1:e.op≠1) (h2:e.op≠2) (h3:e.op≠3) (h4:e.op≠4):¬ Mk c e:=by unfold Mk;simp [h1,h2,h3,h4]
def oE (c:Co):Prop:=(∀ d∈c.facts,EB d.unit)∧∀ d∈c.lines,EB d.unit
theorem mZ {α:Type} {l:List α} {z:Int} {q:α→Prop}:(∃ d,CP l z=some d∧q d)↔0≤z∧z < ((l.length:Nat):Int)∧∀ d,CP l z=some d→q d:=by
 constructor
 · rintro ⟨d,h,hq⟩
   have:=(aG h).1
   exact ⟨this.1,this.2,fun d' h'=>by rw [h] at h';cases h';exact hq⟩
 · rintro ⟨h0,h1,h⟩
   obtain ⟨x,hx,_⟩:=Mx h0 h1
   exact ⟨x,hx,h x hx⟩
theorem aaq {α:Type} {l:List α} {z:Int} {q:α→Prop}:AB (0≤z) (AB (z < ((l.length:Nat):Int)) ((CP l z).bind fun x=>some (mb (q x))) (some false)) (some false)=some (mb (∃ d,CP l z=some d∧q d)):=by
 rw [Dh mZ]
 by_cases h0:0≤z
 · by_cases h1:z < ((l.length:Nat):Int)
   · obtain ⟨x,hx,_⟩:=Mx h0 h1
     rw [Ac h0,Ac h1,hx]
     simp only [Option.bind_some]
     refine Lh ?_
     exact ⟨fun h=>⟨h0,h1,fun d hd=>by cases hd;exact h⟩,fun h=>h.2.2 x rfl⟩
   · rw [Ac h0,Ab h1];refine Hq ?_;exact fun h=>h1 h.2.1
 · rw [Ab h0];refine Hq ?_;exact fun h=>h0 h.1
def VG (f:Fn) (i:Nat) (p:Pc):Prop:=(-1000000≤p.slope∧p.slope≤1000000)∧(-1000000000000000000≤p.att∧p.att≤1000000000000000000)∧p.fr≤1000000000000∧(i=0→p.fr=0)∧∀ (j:Nat) q,i=j+1→f.ps[j]?=some q→q.fr < p.fr
def M3 (f:Fn):Prop:=(1≤f.den∧f.den≤1000000)∧(1≤f.ps.length∧f.ps.length≤64)∧∀ (i:Nat) p,f.ps[i]?=some p→VG f i p
end V
end Mo
end Go.Proofs.YtnijkdknnmgoeaaGreat
namespace Go.Proofs.YtnijkdknnmgoeaaGreat
open AI Go
namespace Mo
namespace V
set_option maxRecDepth 100000
set_option maxHeartbeats 4000000
def KB (e:Ex):Prop:=e.tab.den=0∧e.tab.ps=[]
def Kn (e a b:Ex):Prop :=
 ((e.op=6∨e.op=7)∧e.unit=Ak∧a.unit=Ak∧b.unit=Ak) ∨
 (e.op=8∧e.unit=Ak∧a.unit=b.unit) ∨
 ((e.op=9∨e.op=10)∧e.unit=Ak∧a.unit=b.unit∧a.unit≠Ak) ∨
 ((e.op=11∨e.op=12)∧e.unit=a.unit∧a.unit=b.unit∧a.unit≠Ak) ∨
 (e.op=13∧a.unit≠Ak∧b.unit≠Ak∧((a.unit=AF∧e.unit=b.unit)∨(b.unit=AF∧e.unit=a.unit))) ∨
 (e.op=14∧e.unit=a.unit∧a.unit≠Ak∧b.op=1∧b.unit=AF∧1≤b.n∧b.n≤1000000) ∨
 (e.op=15∧a.unit=BM∧Ns b.unit∧e.unit=b.unit)
def Ng (e a b:Ex) (r:List Ex):Prop:=((e.op=16∨e.op=17)∧(∀ k∈a::b::r,k.unit=a.unit)∧a.unit≠Ak∧e.unit=a.unit)∨(r=[]∧Kn e a b)
def loc (c:Co) (e:Ex):Prop:=match e.kids with
 | []=>KB e∧Mk c e
 | [a]=>e.n=0∧((KB e∧e.op=5∧e.unit=Ak∧a.unit=Ak)∨(e.op=18∧e.unit=a.unit∧Ns e.unit∧M3 e.tab))
 | a::b::r=>e.n=0∧KB e∧Ng e a b r
mutual
def fit (c:Co):Ex→Prop
 | ⟨op,n,u,t,ks⟩=>EB u∧fF c ks∧loc c ⟨op,n,u,t,ks⟩
def fF (c:Co):List Ex→Prop
 | []=>True
 | k::ks=>fit c k∧fF c ks
end
theorem hX {c:Co} {l:List Ex}:fF c l↔∀ k∈l,fit c k:=by
 induction l with
 | nil=>simp [fF]
 | cons k l ih=>simp [fF,ih]
theorem EE (c:Co) (e:Ex):fit c e↔EB e.unit∧(∀ k∈e.kids,fit c k)∧loc c e:=by
 cases e;rw [fit,hX]
theorem ps0 {α:Type} {l:List α}:((l.length:Nat):Int)=0↔l=[]:=by
 cases l<;>simp;omega
theorem aZ:¬ Ns Ak:=fun h=>by have:=h.1;revert this;decide
theorem Y9:¬ Ns AF:=fun h=>by have:=h.1;revert this;decide
theorem W0:¬ Ns BM:=fun h=>by have:=h.1;revert this;decide
theorem abG (c:Co) (op n:Int) (u:ByteArray) (t:Fn):loc c ⟨op,n,u,t,[]⟩↔KB ⟨op,n,u,t,[]⟩∧Mk c ⟨op,n,u,t,[]⟩:=Iff.rfl
theorem abn (c:Co) (op n:Int) (u:ByteArray) (t:Fn) (a:Ex):loc c ⟨op,n,u,t,[a]⟩↔n=0∧((KB ⟨op,n,u,t,[a]⟩∧op=5∧u=Ak∧a.unit=Ak)∨(op=18∧u=a.unit∧Ns u∧M3 t)):=Iff.rfl
theorem adk (c:Co) (op n:Int) (u:ByteArray) (t:Fn) (a b:Ex) (r:List Ex):loc c ⟨op,n,u,t,a::b::r⟩↔n=0∧KB ⟨op,n,u,t,a::b::r⟩∧Ng ⟨op,n,u,t,a::b::r⟩ a b r:=Iff.rfl
theorem aC {e a b:Ex} {r:List Ex} (h:Ng e a b r):6≤e.op∧e.op≤17:=by
 unfold Ng Kn at h
 omega
end V
end Mo
end Go.Proofs.YtnijkdknnmgoeaaGreat
namespace Go.Proofs.YtnijkdknnmgoeaaGreat
open AI Go
namespace Mo
namespace V
set_option maxRecDepth 100000
set_option maxHeartbeats 4000000
def dU (a:Ar):Prop:=a.wh.length≤9223372036854775807∧a.un.length≤9223372036854775807∧(∀ e∈a.wh,lM e)∧lM a.am
def jT (c:Co):Prop:=c.facts.length≤9223372036854775807∧c.lines.length≤9223372036854775807∧c.arts.length≤9223372036854775807∧∀ a∈c.arts,dU a
def whole (c:Co) (e:Ex) (u:ByteArray):Prop:=smE e∧fit c e∧e.unit=u
def IG (c:Co) (a:Ar):Prop:=(1≤a.number∧a.number≤1000000)∧(0≤a.line∧a.line < ((c.lines.length:Nat):Int))∧FN c.arts a.number=some a.line
def Kq (c:Co) (a:Ar):Prop:=(0≤a.rank∧a.rank≤1000000)∧(0≤a.fr∧a.fr < a.to∧a.to≤36525)∧(0≤a.known∧a.known≤36524)∧(∀ z∈a.un,FN c.arts z≠none)∧(∀ e∈a.wh,whole c e Ak)∧∃ d,CP c.lines a.line=some d∧whole c a.am d.unit
def O1 (c:Co):Prop:=(Pa c.facts 0 0∧c.facts.length≤32)∧(Pa c.lines 1 4∧c.lines.length≤32)∧c.arts.length≤60∧∀ a∈c.arts,IG c a∧Kq c a
theorem qJ {c:Co} (h1:Pa c.facts 0 0) (h2:Pa c.lines 1 4):oE c :=
 ⟨fun d hd=>by obtain ⟨i,hi⟩:=List.getElem?_of_mem hd;exact (h1 i d hi).2.1,fun d hd=>by obtain ⟨i,hi⟩:=List.getElem?_of_mem hd;exact (h2 i d hi).2.1⟩
end V
end Mo
end Go.Proofs.YtnijkdknnmgoeaaGreat
namespace Go.Proofs.YtnijkdknnmgoeaaGreat
open AI Go
namespace Mo
namespace V
set_option maxRecDepth 100000
set_option maxHeartbeats 4000000
theorem eL (s:ByteArray):Fo s=some (mb (s∈Q9)):=by
 rw [Fo]
 simp only [B8,BH,Hf,Za]
 refine Lh ?_
 simp only [Q9,List.mem_cons,List.not_mem_nil,or_false]
theorem Xb (s:ByteArray):s=ByteArray.empty↔s.data.toList.length=0:=by
 constructor
 · intro h;rw [h];rfl
 · intro h
   apply ByteArray.ext
   apply Array.ext'
   rw [List.eq_nil_of_length_eq_zero h];rfl
theorem RJ (s:ByteArray):Cu s=some (mb (FK s)):=by
 rw [Cu]
 simp only [B8,Di,BH,eL,Option.bind_some]
 unfold FK
 by_cases h0:s=ByteArray.empty
 · rw [Ac h0];exact Hq fun h=>by have:=(Xb s).1 h0;omega
 have h1:s.data.toList.length≠0:=fun h=>h0 ((Xb s).2 h)
 rw [Ab h0]
 by_cases h2:16 < ((s.data.toList.length:Nat):Int)
 · rw [Ac h2];exact Hq fun h=>by omega
 rw [Ab h2]
 obtain ⟨b,hb⟩:∃ b,s.data.toList[0]?=some b:=⟨_,List.getElem?_eq_getElem (by omega)⟩
 rw [hb,ID (v:=false) (P:=fun _ y=>Nf y) (by omega) (fun i y _=>by
   simp only [Fq,Di,BV,BH,TN,Xs,T9,mX,T3,acp,wI]
   congr 2
   unfold Nf
   apply propext
   omega)]
 simp only [Option.bind_some,Hf,bP,Lg]
 refine Lh ?_
 constructor
 · rintro ⟨h3,h4,h5,h6⟩
   exact ⟨by omega,⟨b,rfl,by omega⟩,h5,h6⟩
 · rintro ⟨h3,⟨c,hc,h4⟩,h5,h6⟩
   cases hc
   exact ⟨by omega,by omega,h5,h6⟩
theorem vB:HE [] []=some true:=by
 rw [HE];rfl
theorem node1 (n:Nd):BI ⟨0⟩ n 1=some (true,1):=by
 rw [BI,Ce (by simp)]
 rfl
theorem gM (s:ByteArray):Bx ⟨12,s,ByteArray.empty,0,0,0,0,⟨0,[]⟩,[],0⟩ ⟨0,s,ByteArray.empty,0,0,0,0,⟨0,[]⟩,[],0⟩=some true:=by
 rw [Bx]
 simp only [B8,BV,BH,Ac,vB,Option.bind_some]
theorem gW (s:ByteArray):HG s=some (mb (FK s)):=by
 have h1:D5 ⟨0⟩ ⟨12,s,ByteArray.empty,0,0,0,0,⟨0,[]⟩,[],0⟩ 1=some (mb (FK s),1):=by
   refine Jw 1 fun n hn=>?_
   obtain ⟨n,rfl⟩:∃ k,n=k+1:=⟨n - 1,by omega⟩
   rw [AJ,CN,node1]
   simp only [Option.bind_some,cond_true,show Bp 12 11=false from rfl,show Bp 12 12=true from rfl,cond_false,RJ,List.length_nil,show Bp ((0:Nat):Int) 0=true from rfl,gM,BH]
   by_cases h:FK s
   · rw [Ac h,show mb (FK s)=true from BG.2 h]
   · rw [Ab h,show mb (FK s)=false from NJ.symm▸h]
 rw [HG,DO]
 simp only [show Bp 12 1=false from rfl,cond_false,h1,Option.bind_some]
theorem Ty (s:ByteArray):E6 s=some (mb (Ns s)):=by
 rw [E6,BV,BH]
 unfold Ns
 by_cases h:((s.data.toList.length:Nat):Int)=3
 · rw [Ac h,ID (v:=false) (P:=fun _ y=>65≤y.toNat∧y.toNat≤90) (by omega) (fun i y _=>by
     simp only [Jm,Di,BH,T9,T3]
     congr 2;apply propext;omega),Hf,Lg]
   exact Lh ⟨fun h2=>⟨by omega,h2⟩,fun h2=>h2.2⟩
 · rw [Ab h];exact Hq fun h2=>h (by omega)
theorem P3 (s:ByteArray):Gt s=some (mb (EB s)):=by
 rw [Gt]
 simp only [B8,BH,Ty,Option.bind_some,Za]
 rfl
theorem WM (l:List Dc) (lo hi:Int) (hl:l.length≤9223372036854775807):Es l lo hi=some (mb (Pa l lo hi)):=by
 rw [Es,K2]
 refine FA (fun i m=>(∀ x,(m.get x).getD false=true↔∃ (j:Nat) (d:Dc),j < i∧l[j]?=some d∧d.name=x)∧∀ (j:Nat) d,j < i→l[j]?=some d→jI l lo hi j d) hl ⟨fun x=>by simp [Mm.get_nil],fun j d hj=>by omega⟩ (fun i y m hy hI=>?_) (fun m hI=>?_)
 · obtain ⟨h1,h2⟩:=hI
   simp only [GG,gW,P3,Option.bind_some,Di,dV,Eb,GF,Bm,F0,U6,Cj]
   rw [h1 y.name]
   have hd:∀ q:Prop,(jI l lo hi i y→q)→¬ q→¬ Pa l lo hi:=fun q h3 h4 h5=>h4 (h3 (h5 i y hy))
   refine ⟨fun a=>⟨fun b=>?_,fun b=>⟨fun c=>⟨fun d=>?_,fun d=>⟨fun e=>?_,fun e=>⟨fun x=>?_,fun j d' hj hj2=>?_⟩⟩⟩,fun c=>?_⟩⟩,fun a=>?_⟩
   · obtain ⟨j,d,hj,hd1,hd2⟩:=b
     exact fun h5=>(h5 i y hy).2.2.2.2 j d hj hd1 hd2
   · exact fun h5=>by have:=(h5 i y hy).2.2.1;omega
   · exact fun h5=>by have:=(h5 i y hy).2.2.2.1;omega
   · rw [Mm.Dz]
     by_cases hx:x=y.name
     · rw [if_pos hx]
       exact ⟨fun _=>⟨i,y,by omega,hy,hx.symm⟩,fun _=>rfl⟩
     · rw [if_neg hx,h1 x]
       constructor
       · rintro ⟨j,d,hj,hd1,hd2⟩;exact ⟨j,d,by omega,hd1,hd2⟩
       · rintro ⟨j,d,hj,hd1,hd2⟩
         have:j≠i:=fun e=>by subst e;rw [hy] at hd1;cases hd1;exact hx hd2.symm
         exact ⟨j,d,by omega,hd1,hd2⟩
   · rcases Nat.lt_or_ge j i with h | h
     · exact h2 j d' h hj2
     · have:j=i:=by omega
       subst this;rw [hy] at hj2;cases hj2
       exact ⟨a,c,by omega,by omega,fun j' e' hj' he' hn=>b ⟨j',e',hj',he',hn⟩⟩
   · exact fun h5=>c (h5 i y hy).2.1
   · exact fun h5=>a (h5 i y hy).1
 · rw [Bm,Pf]
   exact fun j d hj=>hI.2 j d (List.getElem?_eq_some_iff.1 hj).1 hj
theorem xC (f:Fn):FY f=some (mb (M3 f)):=by
 rw [FY]
 simp only [Di,BH]
 by_cases h1:f.den < 1
 · rw [Ac h1];exact Hq (by unfold M3;omega)
 by_cases h2:1000000 < f.den
 · rw [Ab h1,Ac h2];exact Hq (by unfold M3;omega)
 by_cases h3:((f.ps.length:Nat):Int) < 1
 · rw [Ab h1,Ab h2,Ac h3];exact Hq (by unfold M3;omega)
 by_cases h4:64 < ((f.ps.length:Nat):Int)
 · rw [Ab h1,Ab h2,Ab h3,Ac h4];exact Hq (by unfold M3;omega)
 rw [Ab h1,Ab h2,Ab h3,Ab h4,ID (v:=false) (P:=VG f) (by omega) (fun i y hy=>by
   have hi:=(List.getElem?_eq_some_iff.1 hy).1
   simp only [GA,Di,BV,Fw,BH]
   cases i with
   | zero =>
     simp only [show ((0:Nat):Int)=0 from rfl,Ac,TN,T9,T3,Xs]
     congr 2
     apply propext
     unfold VG
     grind
   | succ i =>
     obtain ⟨q,hq⟩:∃ q,f.ps[i]?=some q:=⟨_,List.getElem?_eq_getElem (by omega)⟩
     rw [MB (by omega),show ((i+1:Nat):Int) - 1=((i:Nat):Int) by omega,Mb,hq]
     rw [Ab (show ¬ ((i+1:Nat):Int)=0 by omega),Ac (show (0:Int) < ((i+1:Nat):Int) by omega)]
     simp only [Option.bind_some,Fw,BH,T9,T3,Xs]
     congr 2
     apply propext
     unfold VG
     have h5:(∀ (j:Nat) q',i+1=j+1→f.ps[j]?=some q'→q'.fr < y.fr)↔q.fr < y.fr:=⟨fun h=>h i q rfl hq,fun h j q' hj hq'=>by cases hj;rw [hq] at hq';cases hq';exact h⟩
     rw [h5]
     grind),Hf]
 refine Lh ?_
 unfold M3
 exact ⟨fun h=>⟨by omega,by omega,h⟩,fun h=>h.2.2⟩
theorem rX (f:Ft) (e:Ex) (ho:1≤e.op∧e.op≤4) (hg:∀ z,f.lines.get z=FN f.codex.arts z) (hln:∀ z l,FN f.codex.arts z=some l→0≤l∧l < ((f.codex.lines.length:Nat):Int)):ES f e=some (mb (Mk f.codex e)):=by
 rw [ES,hg]
 simp only [Fw,Di,BV,B8,dV,Eb,Option.bind_some,Hf,F1,afa,aaq]
 by_cases h1:e.op=1
 · rw [Ac h1,Dh (acB h1)]
   refine Lh ?_;unfold Y7;grind
 rw [Ab h1]
 by_cases h2:e.op=2
 · rw [Ac h2,Dh (acR h2)]
 rw [Ab h2]
 by_cases h3:e.op=3
 · rw [Ac h3,Dh (ab9 h3)]
   cases hl:FN f.codex.arts e.n with
   | none=>rw [Ab (by simp)];exact Hq (by simp)
   | some l =>
     obtain ⟨x,hx,_⟩:=Mx (hln _ _ hl).1 (hln _ _ hl).2
     rw [Ac (by simp),Option.getD_some,hx]
     simp only [Option.bind_some]
     refine Lh ⟨fun h=>⟨l,x,rfl,hx,h⟩,fun ⟨l',d,h1,h2,h3⟩=>by cases h1;rw [hx] at h2;cases h2;exact h3⟩
 rw [Ab h3]
 have h4:e.op=4:=by omega
 exact Lh (abH h4).symm
end V
end Mo
end Go.Proofs.YtnijkdknnmgoeaaGreat
namespace Go.Proofs.YtnijkdknnmgoeaaGreat
open AI Go
namespace Mo
namespace V
set_option maxRecDepth 100000
set_option maxHeartbeats 4000000
theorem VE (k:Ex) (ks:List Ex) (hl:(k::ks).length≤9223372036854775807):I5 (k::ks)=some (mb (∀ x∈k::ks,x.unit=k.unit)):=by
 rw [I5,ID (v:=false) (P:=fun _ x=>x.unit=k.unit) hl (fun i x _=>by
   simp only [JP,List.getElem?_cons_zero,Option.bind_some,B8,BH,TN]),Hf,Lg]
theorem cN (a b:ByteArray):CG a b=some (open Classical in if a=AF then b else a):=by
 rw [CG,B8,BH]
 by_cases h:a=AF
 · rw [Ac h,if_pos h]
 · rw [Ab h,if_neg h]
theorem nT {α:Type} (a:α) (l:List α):∃ x,CP (a::l) ((((a::l).length:Nat):Int) - 1)=some x∧x∈a::l∧(l=[]→x=a)∧∀ b,l=[b]→x=b:=by
 have h:((((a::l).length:Nat):Int) - 1)=((l.length:Nat):Int):=by simp only [List.length_cons];omega
 rw [h,Mb]
 have h2:l.length < (a::l).length:=by simp
 refine ⟨(a::l)[l.length],List.getElem?_eq_getElem h2,List.getElem_mem _,fun h=>by subst h;rfl,fun b h=>by subst h;rfl⟩
theorem VT (op n:Int) (u:ByteArray) (t:Fn) (a:Ex) (r:List Ex) (hl:(a::r).length≤9223372036854775807) (hu:∀ k∈a::r,EB k.unit) (ho:¬ (1≤op∧op≤4)) (ho2:op≠18) :
   EG ⟨op,n,u,t,a::r⟩=some (mb ((r=[]∧op=5∧u=Ak∧a.unit=Ak)∨∃ b r',r=b::r'∧Ng ⟨op,n,u,t,a::r⟩ a b r')):=by
 obtain ⟨x,hx,hxm,hx0,hx1⟩:=nT a r
 rw [EG]
 simp only [List.getElem?_cons_zero,Option.bind_some]
 rw [MB (by omega),hx]
 simp only [Option.bind_some,VE a r hl,B8,BV,Fw,Di,fR,cN,Ty,dV,Eb,Hf,F1,bP,kB,lW,Za,L2]
 refine Lh ?_
 have P6:Ak≠AF:=by intro h;exact absurd (congrArg ByteArray.data h) (by decide)
 have nt2:Ak≠BM:=by intro h;exact absurd (congrArg ByteArray.data h) (by decide)
 have nt3:AF≠BM:=by intro h;exact absurd (congrArg ByteArray.data h) (by decide)
 have tc:=aZ
 have nc:=Y9
 have mc:=W0
 have hua:=hu a (by simp)
 have hux:=hu x hxm
 match r,hl,hx0,hx1 with
 | [],hl,hx0,hx1 =>
   have:=hx0 rfl
   subst this
   simp only [List.length_cons,List.length_nil,List.mem_singleton,forall_eq,reduceCtorEq,false_and,exists_false,or_false,true_and]
   grind
 | [b],hl,hx0,hx1 =>
   have:=hx1 b rfl
   subst this
   have e2:(((([a,x]:List Ex).length:Nat):Int)=2)↔True:=by simp
   have e1:(((([a,x]:List Ex).length:Nat):Int)=1)↔False:=by simp
   have e3:((2:Int)≤((([a,x]:List Ex).length:Nat):Int))↔True:=by simp
   have es:(∀ k∈[a,x],k.unit=a.unit)↔x.unit=a.unit:=by simp
   have eq:∀ M:Ex→List Ex→Prop,(∃ b r',[x]=b::r'∧M b r')↔M x []:=fun M=>⟨fun ⟨b,r',h,hm⟩=>by cases h;exact hm,fun h=>⟨x,[],rfl,h⟩⟩
   rw [eq]
   simp only [e1,e2,e3,es,reduceCtorEq,false_and,false_or]
   unfold Ng Kn
   simp only [es]
   generalize a.unit=ua at *;generalize x.unit=ub at *;generalize x.op=xo at *;generalize x.n=xn at *
   clear hx hxm hx0 hx1 hu hl eq e1 e2 e3 es
   by_cases h6:op=6
   · subst h6;simp;try grind
   by_cases h7:op=7
   · subst h7;simp;try grind
   by_cases h8:op=8
   · subst h8;simp;try grind
   by_cases h9:op=9
   · subst h9;simp;try grind
   by_cases h10:op=10
   · subst h10;simp;try grind
   by_cases h11:op=11
   · subst h11;simp;try grind
   by_cases h12:op=12
   · subst h12;simp;try grind
   by_cases h13:op=13
   · subst h13;simp;try grind
   by_cases h14:op=14
   · subst h14;simp;try grind
   by_cases h15:op=15
   · subst h15;simp;try grind
   by_cases h16:op=16
   · subst h16;simp;try grind
   by_cases h17:op=17
   · subst h17;simp;try grind
   by_cases h5:op=5
   · subst h5;simp
   simp [h5,h6,h7,h8,h9,h10,h11,h12,h13,h14,h15,h16,h17]
 | b::d::r,hl,hx0,hx1 =>
   have e2:((((a::b::d::r).length:Nat):Int)=2)↔False:=by simp only [List.length_cons,iff_false];omega
   have e1:((((a::b::d::r).length:Nat):Int)=1)↔False:=by simp only [List.length_cons,iff_false];omega
   have e3:((2:Int)≤(((a::b::d::r).length:Nat):Int))↔True:=by simp only [List.length_cons,iff_true];omega
   have eq:∀ M:Ex→List Ex→Prop,(∃ b' r',b::d::r=b'::r'∧M b' r')↔M b (d::r):=fun M=>⟨fun ⟨b,r',h,hm⟩=>by cases h;exact hm,fun h=>⟨b,d::r,rfl,h⟩⟩
   rw [eq]
   simp only [e1,e2,e3,reduceCtorEq,false_and,false_or]
   unfold Ng
   simp only [reduceCtorEq,false_and,or_false]
   generalize (∀ k∈a::b::d::r,k.unit=a.unit)=A at *
   clear hx hxm hx0 hx1 hu hl eq e1 e2 e3
   by_cases h16:op=16
   · subst h16;simp;try grind
   by_cases h17:op=17
   · subst h17;simp;try grind
   simp [h16,h17]
   try grind
theorem aav (c:Co) (hd:oE c) (hln:∀ z l,FN c.arts z=some l→0≤l∧l < ((c.lines.length:Nat):Int)):∀ (m:Nat) (e:Ex) (L:Mm Int Int) (nd:Int) (d:Int),lM e→Kv e≤m→(∀ z,L.get z=FN c.arts z)→0≤nd→nd≤400→1≤d→d≤41 →
   Sp (BE m ⟨c,L,nd⟩ e d) (fun r=>(r.1=mb (nd+((Kv e:Nat):Int)≤400∧((dp e:Nat):Int)+d≤41∧fit c e))∧(r.1=true→r.2=nd+((Kv e:Nat):Int))):=by
 intro m
 induction m with
 | zero=>intro e _ _ _ _ h;have:=VC e;omega
 | succ m ih =>
   intro e L nd d hok hm hL hn0 hn1 hd0 hd1
   obtain ⟨_,hk,hks⟩:=(Z0 e).1 hok
   have hc:=Y8 e
   have hdp:=acG e
   rw [BE,DV]
   simp only
   rw [Ce (by omega)]
   simp only [P3,Option.bind_some,Di,dV,Eb,GF,Bm,Cj,Bool.false_eq_true,false_implies,and_true]
   refine ⟨fun h=>by omega,fun h1=>⟨fun h=>by omega,fun h2=>⟨fun h3=>?_,fun h3=>fun h=>h3 ((EE c e).1 h.2.2).1⟩⟩⟩
   refine FA (fun i x=>x=nd+1+((Mu (e.kids.take i):Nat):Int)∧x≤400∧∀ (j:Nat) k,j < i→e.kids[j]?=some k→((dp k:Nat):Int)+d≤40∧fit c k) hk ⟨by simp [Mu],by omega,fun j k hj=>by omega⟩ (fun i y x hy hI=>?_) (fun x hI=>?_)
   · obtain ⟨hx,hx4,hj⟩:=hI
     have hym:=List.mem_of_getElem? hy
     have h4:=Zi hym
     have h5:=dS hy
     have h6:=cK e.kids (i+1)
     have h7:=kE.1 (Nat.le_refl (gR e.kids)) y hym
     simp only [Dx,MD]
     rw [Ce (by omega)]
     refine (ih y L x (d+1) (hks y hym) (by omega) hL (by omega) (by omega) (by omega) (by omega)).mono fun r hr=>?_
     obtain ⟨r1,r2⟩:=r
     obtain ⟨hr1,hr2⟩:=hr
     simp only at hr1 hr2 ⊢
     subst hr1
     simp only [BH,GF,Bm,F0,U6,Cj,Bool.false_eq_true,false_implies,and_true]
     refine ⟨fun h=>?_,fun h=>fun h8=>h ⟨?_,?_,(EE c e).1 h8.2.2 |>.2.1 y hym⟩⟩
     · have:=hr2 (BG.2 h)
       refine ⟨by omega,by omega,fun j k hji hjk=>?_⟩
       rcases Nat.lt_or_ge j i with h9 | h9
       · exact hj j k h9 hjk
       · have:j=i:=by omega
         subst this;rw [hy] at hjk;cases hjk
         exact ⟨by omega,h.2.2⟩
     · omega
     · omega
   · obtain ⟨hx,hx4,hj⟩:=hI
     rw [List.take_length] at hx
     have hfk:∀ k∈e.kids,fit c k:=fun k hk=>by
       obtain ⟨i,hi⟩:=List.getElem?_of_mem hk
       exact (hj i k (List.getElem?_eq_some_iff.1 hi).1 hi).2
     have hdk:gR e.kids≤(40 - d).toNat:=kE.2 fun k hk=>by
       obtain ⟨i,hi⟩:=List.getElem?_of_mem hk
       have:=(hj i k (List.getElem?_eq_some_iff.1 hi).1 hi).1
       omega
     have hP:(nd+((Kv e:Nat):Int)≤400∧((dp e:Nat):Int)+d≤41∧fit c e)↔loc c e:=by
       rw [EE]
       exact ⟨fun h=>h.2.2.2.2,fun h=>⟨by omega,by omega,h3,hfk,h⟩⟩
     rw [Dh hP]
     have hx2:x=nd+((Kv e:Nat):Int):=by omega
     subst hx2
     have fin:∀ {o:Option (Bool×Int)} {q:Prop},(loc c e↔q)→o=some (mb q,nd+((Kv e:Nat):Int))→Sp o (fun r=>r.1=mb (loc c e)∧(r.1=true→r.2=nd+((Kv e:Nat):Int))):=fun hq ho=>by
       rw [ho,Bm,Dh hq];exact ⟨rfl,fun _=>rfl⟩
     have hun:∀ k∈e.kids,EB k.unit:=fun k hk=>((EE c k).1 (hfk k hk)).1
     obtain ⟨op,n,u,t,ks⟩:=e
     simp only at hun hk ⊢
     have lf:=fun h=>rX ⟨c,L,nd+((Kv ⟨op,n,u,t,ks⟩:Nat):Int)⟩ ⟨op,n,u,t,ks⟩ h hL hln
     simp only at lf
     simp only [BV,B8,Fw,Di,dV,Eb,Ty,xC,Option.bind_some]
     clear fin hP hj hfk hdk hx hx4 hks ih hm hc hdp hok h1 h2
     by_cases ho:1≤op∧op≤4
     · rw [lf ho]
       have n18:¬ op=18:=by omega
       have n5:¬ op=5:=by omega
       simp only [Ac ho.1,Ac ho.2,Ab n18,Option.bind_some,GF,Bm,Cj,Nu,Bool.false_eq_true,false_implies,implies_true,and_true]
       match ks with
       | []=>rw [abG];unfold KB;simp only [List.length_nil];have p0:=@ps0 Pc t.ps;grind
       | [a]=>rw [abn];simp only [List.length_cons,List.length_nil];grind
       | a::b::r =>
         rw [adk]
         have h5:=@aC ⟨op,n,u,t,a::b::r⟩ a b r
         simp only [List.length_cons] at h5 ⊢
         generalize Ng ⟨op,n,u,t,a::b::r⟩ a b r=M at *
         refine ⟨fun _=>⟨fun _ h=>?_,fun _=>⟨fun h=>?_,fun h h2=>?_⟩⟩,fun _ h2=>?_⟩
         · have:=h5 h.2.2;omega
         · omega
         · have:=h5 h2.2.2;omega
         · have:=h5 h2.2.2;omega
     · have el:∀ x y:Option (Bool×Int),AB (1≤op) (AB (op≤4) x y) y=y:=fun x y=>by
         by_cases q:1≤op
         · rw [Ac q,Ab (by omega)]
         · rw [Ab q]
       rw [el]
       have lz:=fun h1 h2 h3 h4=>@acF c ⟨op,n,u,t,ks⟩ h1 h2 h3 h4
       have lz:=lz (by show op≠1;omega) (by show op≠2;omega) (by show op≠3;omega) (by show op≠4;omega)
       match ks,hun,hk,lz with
       | [],hun,hk,lz =>
         rw [abG]
         simp only [List.length_nil,GF,Bm,Cj,Bool.false_eq_true,false_implies,and_true]
         refine ⟨fun _=>⟨fun _=>⟨fun h=>by omega,fun _ h=>lz h.2⟩,fun _ h=>lz h.2⟩,fun _=>⟨fun _=>⟨fun _ h=>lz h.2,fun _=>⟨fun _=>⟨fun h=>by omega,fun _ h=>lz h.2⟩,fun _ h=>lz h.2⟩⟩,fun _ h=>lz h.2⟩⟩
       | [a],hun,hk,lz =>
         rw [abn]
         by_cases h18:op=18
         · subst h18
           simp only [List.length_cons,List.length_nil,List.getElem?_cons_zero,Option.bind_some,Ac,GF,Bm,Cj,Nu,Bool.false_eq_true,false_implies,implies_true,and_true]
           grind
         · rw [Ab h18,VT op n u t a [] hk hun ho h18]
           have p0:=@ps0 Pc t.ps
           unfold KB
           simp only [List.length_cons,List.length_nil,Option.bind_some,GF,Bm,Cj,Nu,Bool.false_eq_true,false_implies,implies_true,and_true,reduceCtorEq,false_and,exists_false,or_false,true_and]
           grind
       | a::b::r,hun,hk,lz =>
         rw [adk]
         have h5:=@aC ⟨op,n,u,t,a::b::r⟩ a b r
         have eq:∀ M:Ex→List Ex→Prop,(∃ b' r',b::r=b'::r'∧M b' r')↔M b r:=fun M=>⟨fun ⟨b,r',h,hm⟩=>by cases h;exact hm,fun h=>⟨b,r,rfl,h⟩⟩
         have p0:=@ps0 Pc t.ps
         unfold KB
         by_cases h18:op=18
         · subst h18
           simp only [Ac,GF,Bm,Cj,Nu,Bool.false_eq_true,false_implies,implies_true,and_true]
           have:∀ q:Prop,(n=0∧q∧Ng ⟨18,n,u,t,a::b::r⟩ a b r)→False:=fun q h=>by have:=h5 h.2.2;simp at this
           refine ⟨fun _=>⟨fun h=>?_,fun _ h=>this _ h⟩,fun _ h=>this _ h⟩
           simp only [List.length_cons] at h;omega
         · rw [Ab h18,VT op n u t a (b::r) hk hun ho h18,Dh (show (((b::r=[]∧op=5∧u=Ak∧a.unit=Ak)∨∃ b' r',b::r=b'::r'∧Ng ⟨op,n,u,t,a::b::r⟩ a b' r')↔Ng ⟨op,n,u,t,a::b::r⟩ a b r) by rw [eq];simp)]
           simp only [List.length_cons,Option.bind_some,GF,Bm,Cj,Nu,Bool.false_eq_true,false_implies,implies_true,and_true]
           generalize Ng ⟨op,n,u,t,a::b::r⟩ a b r=M at *
           clear h5 eq lf
           grind
end V
end Mo
end Go.Proofs.YtnijkdknnmgoeaaGreat
namespace Go.Proofs.YtnijkdknnmgoeaaGreat
open AI Go
namespace Mo
namespace V
set_option maxRecDepth 100000
set_option maxHeartbeats 4000000
theorem W6 (l m:List Ar) (z:Int):FN (l++m) z=(FN l z).or (FN m z):=by
 unfold FN
 rw [List.find?_append]
 cases List.find? (fun a=>decide (a.number=z)) l<;>rfl
theorem jX (a:Ar) (z:Int):FN [a] z=if a.number=z then some a.line else none:=by
 unfold FN
 by_cases h:a.number=z<;>simp [h]
theorem b9 {l:List Ar} {z x:Int} (h:FN l z=some x):∃ a∈l,a.number=z∧a.line=x:=by
 unfold FN at h
 obtain ⟨a,h1,h2⟩:=Option.map_eq_some_iff.1 h
 exact ⟨a,List.mem_of_find?_eq_some h1,by have:=List.find?_some h1;simpa using this,h2⟩
theorem bZ {l:List Ar} {i:Nat} {z x:Int} (h:FN (l.take i) z=some x):FN l z=some x:=by
 have:=W6 (l.take i) (l.drop i) z
 rw [List.take_append_drop] at this
 rw [this,h];rfl
theorem bG {l:List Ar} {i:Nat} {a:Ar} (h:l[i]?=some a) (z:Int):FN (l.take (i+1)) z=(FN (l.take i) z).or (if a.number=z then some a.line else none):=by
 rw [List.take_add_one,h,W6]
 show (FN (l.take i) z).or (FN [a] z)=_
 rw [jX]
def xF (c:Co):Prop:=∀ z l,FN c.arts z=some l→0≤l∧l < ((c.lines.length:Nat):Int)
theorem oV:∀ (m m':Nat) (e:Ex) (f:Ft) (d:Int),Kv e≤m→Kv e≤m'→BE m f e d=BE m' f e d:=by
 intro m
 induction m with
 | zero=>intro m' e _ _ h;have:=VC e;omega
 | succ m ih =>
   intro m' e f d h1 h2
   cases m' with
   | zero=>have:=VC e;omega
   | succ m' =>
     rw [BE,BE,DV,DV,Zb (body':=fun i y x=>Dx (BE m') f d i y x) (fun i y x hy=>by
       have:=Zi (List.mem_of_getElem? hy)
       simp only [Dx]
       rw [ih m' y _ _ (by omega) (by omega)])]
theorem Wo (c:Co) (hd:oE c) (hln:xF c) (L:Mm Int Int) (hL:∀ z,L.get z=FN c.arts z) (nd:Int) (e:Ex) (u:ByteArray) (he:lM e):Sp (Ds ⟨c,L,nd⟩ e u) (fun r=>r.1=mb (whole c e u)):=by
 rw [Ds,B8,BH,GF]
 refine ⟨fun h=>?_,fun h=>?_⟩
 · obtain ⟨r,h1,h2⟩:Sp (H6 ⟨c,L,0⟩ e 1) (fun r=>r.1=mb ((0:Int)+((Kv e:Nat):Int)≤400∧((dp e:Nat):Int)+1≤41∧fit c e)):=by
     obtain ⟨r,h1,h2,_⟩:=aav c hd hln (Kv e) e L 0 1 he (Nat.le_refl _) hL (by omega) (by omega) (by omega) (by omega)
     refine ⟨r,Jw (Kv e) fun n hn=>?_,h2⟩
     rw [oV n (Kv e) e _ _ hn (Nat.le_refl _),h1]
   rw [h1,MD,Bm]
   obtain ⟨r1,r2⟩:=r
   simp only [Bm]
   simp only at h2
   rw [h2]
   refine Dh ?_
   unfold whole smE
   constructor
   · rintro ⟨a,b,d⟩;exact ⟨⟨by omega,by omega⟩,d,h⟩
   · rintro ⟨⟨a,b⟩,d,_⟩;exact ⟨by omega,by omega,d⟩
 · rw [Bm,Cj]
   exact fun h2=>h h2.2.2
theorem YR (c:Co) (hd:oE c) (hln:xF c) (L:Mm Int Int) (hL:∀ z,L.get z=FN c.arts z) (nd:Int) (a:Ar) (ha:dU a) (hli:0≤a.line∧a.line < ((c.lines.length:Nat):Int)):Sp (DN ⟨c,L,nd⟩ a) (fun r=>r.1=mb (Kq c a)):=by
 obtain ⟨hw,hu,hwe,hae⟩:=ha
 rw [DN]
 simp only [Di,Fw,BH,GF,Bm,Cj]
 have nb:∀ q:Prop,(Kq c a→¬ q)→q→¬ Kq c a:=fun q h1 h2 h3=>h1 h3 h2
 refine ⟨fun h=>by unfold Kq;omega,fun h1=>⟨fun h=>by unfold Kq;omega,fun h2=>⟨fun h=>by unfold Kq;omega,fun h3=>⟨fun h=>by unfold Kq;omega,fun h4=>⟨fun h=>by unfold Kq;omega,fun h5=>⟨fun h=>by unfold Kq;omega,fun h6=>⟨fun h=>by unfold Kq;omega,fun h7=>?_⟩⟩⟩⟩⟩⟩⟩
 refine FA (fun i _=>∀ (j:Nat) z,j < i→a.un[j]?=some z→FN c.arts z≠none) hu (fun j z hj=>by omega) (fun i z x hz hI=>?_) (fun x hI=>?_)
 · simp only [Et,hL,dV,GF,Bm,F0,U6,Cj]
   refine ⟨fun h j z' hj hz'=>?_,fun h h2=>?_⟩
   · rcases Nat.lt_or_ge j i with h9 | h9
     · exact hI j z' h9 hz'
     · have:j=i:=by omega
       subst this;rw [hz] at hz';cases hz'
       intro e;rw [e] at h;cases h
   · have:=h2.2.2.2.1 z (List.mem_of_getElem? hz)
     cases hq:FN c.arts z with
     | none=>exact this hq
     | some x=>rw [hq] at h;exact h rfl
 · have hun:∀ z∈a.un,FN c.arts z≠none:=fun z hz=>by obtain ⟨i,hi⟩:=List.getElem?_of_mem hz;exact hI i z (List.getElem?_eq_some_iff.1 hi).1 hi
   clear hI
   refine FA (fun i _=>∀ (j:Nat) e,j < i→a.wh[j]?=some e→whole c e Ak) hw (fun j z hj=>by omega) (fun i e x he hI=>?_) (fun x hI=>?_)
   · simp only [Ez,MD]
     refine (Wo c hd hln L hL x e Ak (hwe e (List.mem_of_getElem? he))).mono fun r hr=>?_
     obtain ⟨r1,r2⟩:=r
     simp only at hr ⊢
     subst hr
     simp only [BH,GF,Bm,F0,U6,Cj]
     refine ⟨fun h j e' hj he'=>?_,fun h h2=>h (h2.2.2.2.2.1 e (List.mem_of_getElem? he))⟩
     rcases Nat.lt_or_ge j i with h9 | h9
     · exact hI j e' h9 he'
     · have:j=i:=by omega
       subst this;rw [he] at he';cases he';exact h
   · have hwh:∀ e∈a.wh,whole c e Ak:=fun z hz=>by obtain ⟨i,hi⟩:=List.getElem?_of_mem hz;exact hI i z (List.getElem?_eq_some_iff.1 hi).1 hi
     obtain ⟨d,hd1,_⟩:=Mx hli.1 hli.2
     rw [hd1,Option.bind_some,MD]
     refine (Wo c hd hln L hL x a.am d.unit hae).mono fun r hr=>?_
     obtain ⟨r1,r2⟩:=r
     simp only at hr ⊢
     rw [Bm,hr]
     refine Dh ⟨fun h=>⟨by omega,by omega,by omega,hun,hwh,d,hd1,h⟩,fun h=>?_⟩
     obtain ⟨d',h1,h2⟩:=h.2.2.2.2.2
     rw [hd1] at h1;cases h1;exact h2
theorem fM (c:Co) (hc:jT c):Ii c=some (mb (O1 c)):=by
 obtain ⟨hf,hl,ha,hao⟩:=hc
 rw [Ii,WM _ _ _ hf,WM _ _ _ hl,K2]
 simp only [Di,BH,Option.bind_some,GF,Bm,Cj]
 refine ⟨fun h=>by unfold O1;omega,fun h1=>⟨fun h=>by unfold O1;omega,fun h2=>⟨fun h=>by unfold O1;omega,fun h3=>⟨fun h4=>⟨fun h5=>?_,fun h5 h=>h5 h.2.1.1⟩,fun h4 h=>h4 h.1.1⟩⟩⟩⟩
 have hd:=qJ h4 h5
 refine FA (fun i m=>(∀ z,m.get z=FN (c.arts.take i) z)∧∀ (j:Nat) a,j < i→c.arts[j]?=some a→(1≤a.number∧a.number≤1000000)∧(0≤a.line∧a.line < ((c.lines.length:Nat):Int))∧FN (c.arts.take i) a.number=some a.line) ha ⟨fun z=>rfl,fun j a hj=>by omega⟩ (fun i a m hi hI=>?_) (fun m hI=>?_)
 · obtain ⟨hm,hj⟩:=hI
   have hm':=hm a.number
   have hmem:=List.mem_of_getElem? hi
   have hst:=bG hi
   simp only [Jl,Di,Fw,BV,dV,Eb,GF,Bm,F0,U6,Cj]
   rw [hm']
   have nv:∀ q:Prop,(IG c a→q)→¬ q→¬ O1 c:=fun q h6 h7 h8=>h7 (h6 (h8.2.2.2 a hmem).1)
   have keep:(FN (c.arts.take i) a.number).isSome=true→(FN (c.arts.take i) a.number).getD 0=a.line→∀ z,(m.set a.number a.line).get z=FN (c.arts.take (i+1)) z:=fun h6 h7 z=>by
     rw [Mm.Dz,hst z,hm z]
     by_cases hz:z=a.number
     · subst hz
       rw [if_pos rfl]
       cases hq:FN (c.arts.take i) a.number with
       | none=>rw [hq] at h6;cases h6
       | some x=>rw [hq] at h7;simp at h7;rw [h7];rfl
     · rw [if_neg hz,if_neg (fun e=>hz e.symm)];simp
   have new:¬ (FN (c.arts.take i) a.number).isSome=true→∀ z,(m.set a.number a.line).get z=FN (c.arts.take (i+1)) z:=fun h6 z=>by
     rw [Mm.Dz,hst z,hm z]
     by_cases hz:z=a.number
     · subst hz
       rw [if_pos rfl]
       cases hq:FN (c.arts.take i) a.number with
       | none=>simp
       | some x=>rw [hq] at h6;exact absurd rfl h6
     · rw [if_neg hz,if_neg (fun e=>hz e.symm)];simp
   have fin:¬ a.number < 1→¬ 1000000 < a.number→¬ a.line < 0→¬ ((c.lines.length:Nat):Int)≤a.line→(∀ z,(m.set a.number a.line).get z=FN (c.arts.take (i+1)) z)→(∀ z,(m.set a.number a.line).get z=FN (c.arts.take (i+1)) z)∧∀ (j:Nat) b,j < i+1→c.arts[j]?=some b→(1≤b.number∧b.number≤1000000)∧(0≤b.line∧b.line < ((c.lines.length:Nat):Int))∧FN (c.arts.take (i+1)) b.number=some b.line:=fun q1 q2 q3 q4 hk=>by
     refine ⟨hk,fun j b hji hb=>?_⟩
     rcases Nat.lt_or_ge j i with h9 | h9
     · obtain ⟨p1,p2,p3⟩:=hj j b h9 hb
       refine ⟨p1,p2,?_⟩
       rw [hst,p3];rfl
     · have:j=i:=by omega
       subst this;rw [hi] at hb;cases hb
       refine ⟨by omega,by omega,?_⟩
       rw [← hk,Mm.Dz,if_pos rfl]
   refine ⟨fun h=>nv _ (fun h=>h.1.1) (by omega),fun q1=>⟨fun h=>nv _ (fun h=>h.1.2) (by omega),fun q2=>⟨fun h=>nv _ (fun h=>h.2.1.1) (by omega),fun q3=>⟨fun h=>nv _ (fun h=>h.2.1.2) (by omega),fun q4=>⟨fun q5=>⟨fun q6=>fin q1 q2 q3 q4 (keep q5 q6),fun q6 h=>?_⟩,fun q5=>fin q1 q2 q3 q4 (new q5)⟩⟩⟩⟩⟩
   have h8:=(h.2.2.2 a hmem).1.2.2
   cases hq:FN (c.arts.take i) a.number with
   | none=>rw [hq] at q5;cases q5
   | some x =>
     rw [hq] at q6
     rw [bZ hq] at h8
     cases h8
     exact q6 rfl
 · obtain ⟨hm,hj⟩:=hI
   rw [List.take_length] at hm hj
   have hH:∀ a∈c.arts,IG c a:=fun a h=>by obtain ⟨i,hi⟩:=List.getElem?_of_mem h;exact hj i a (List.getElem?_eq_some_iff.1 hi).1 hi
   have hln:xF c:=fun z l h=>by obtain ⟨a,h1,_,h3⟩:=b9 h;rw [← h3];exact (hH a h1).2.1
   refine FA (fun i _=>∀ (j:Nat) a,j < i→c.arts[j]?=some a→Kq c a) ha (fun j a hj=>by omega) (fun i a x hi hI=>?_) (fun x hI=>?_)
   · have hmem:=List.mem_of_getElem? hi
     simp only [IT,MD]
     refine (YR c hd hln m hm x a (hao a hmem) (hH a hmem).2.1).mono fun r hr=>?_
     obtain ⟨r1,r2⟩:=r
     simp only at hr ⊢
     subst hr
     simp only [BH,GF,Bm,F0,U6,Cj]
     refine ⟨fun h j b hji hb=>?_,fun h h2=>h (h2.2.2.2 a hmem).2⟩
     rcases Nat.lt_or_ge j i with h9 | h9
     · exact hI j b h9 hb
     · have:j=i:=by omega
       subst this;rw [hi] at hb;cases hb;exact h
   · rw [Bm,Pf]
     exact ⟨⟨h4,by omega⟩,⟨h5,by omega⟩,by omega,fun a h=>⟨hH a h,by obtain ⟨i,hi⟩:=List.getElem?_of_mem h;exact hI i a (List.getElem?_eq_some_iff.1 hi).1 hi⟩⟩
end V
end Mo
end Go.Proofs.YtnijkdknnmgoeaaGreat
namespace Go.Proofs.YtnijkdknnmgoeaaGreat
open AI Go
namespace Mo
set_option maxRecDepth 100000
set_option maxHeartbeats 4000000
theorem Og (t:Tr):∀ (l:List Nd) (z:Int),V.FN ((Oz 4 l).map (Pr t)) z=(fA l z).map fun w=>(t.lines.get w).getD 0
 | [],z=>by rw [fA];rfl
 | a::l,z=>by
   rw [fA]
   by_cases k4:a.kind=4
   · rw [KR k4,List.map_cons]
     unfold V.FN
     rw [List.find?_cons]
     by_cases hz:a.n=z
     · rw [Ac ⟨k4,hz⟩,show decide ((Pr t a).number=z)=true from decide_eq_true hz]
       rfl
     · rw [Ab fun q=>hz q.2,show decide ((Pr t a).number=z)=false from decide_eq_false hz]
       exact Og t l z
   · rw [Km k4,Ab fun q=>k4 q.1]
     exact Og t l z
theorem V9 {s:ByteArray} (h:V.EB s):s≠eS:=by
 rintro rfl
 rcases h with h | h | h | h
 · revert h;decide
 · revert h;decide
 · revert h;decide
 · have:=h.1;revert this;decide
theorem kN {s:ByteArray} (h:V.EB s) (hi:dW s):V.Ns s:=by
 obtain ⟨_,h1,h2,h3⟩:=hi
 rcases h with h | h | h | h
 · exact absurd h h1
 · exact absurd h h2
 · exact absurd h h3
 · exact h
theorem Hl {p:Prop} {a:ByteArray} (h:AB p a eS≠eS):p∧a≠eS:=by
 by_cases hp:p
 · rw [Ac hp] at h;exact ⟨hp,h⟩
 · rw [Ab hp] at h;exact absurd rfl h
theorem Lz {p:Prop} {a:ByteArray} (h:AB p eS a≠eS):¬ p∧a≠eS:=by
 by_cases hp:p
 · rw [Ac hp] at h;exact absurd rfl h
 · rw [Ab hp] at h;exact ⟨hp,h⟩
theorem Ly:V.EB Ak:=.inl rfl
theorem o0 {c:Co} {s:ByteArray} {x y:Ex} (hop:SW s) (hx:V.fit c x) (hy:V.fit c y) (hd:s=Kf→y.op=1∧y.unit=AF∧1≤y.n∧y.n≤1000000) (hu:HY s [x.unit,y.unit]≠eS) :
   V.fit c (Wa s x.unit y.unit [x,y])∧(Wa s x.unit y.unit [x,y]).unit=HY s [x.unit,y.unit]:=by
 have hxu:=((V.EE c x).1 hx).1
 have hyu:=((V.EE c y).1 hy).1
 have hk:∀ k∈[x,y],V.fit c k:=fun k h=>by
   rcases List.mem_cons.1 h with rfl | h
   · exact hx
   · rw [List.mem_singleton] at h;rw [h];exact hy
 have e0:HY s [x.unit,y.unit]=GO s x.unit y.unit (∀ u∈[x.unit,y.unit],u=x.unit):=rfl
 have hE:(∀ u∈[x.unit,y.unit],u=x.unit)↔y.unit=x.unit:=by simp
 rw [e0,propext hE] at hu
 rw [e0,propext hE]
 generalize hu0:x.unit=u at *
 generalize hv0:y.unit=v at *
 have two:∀ (op:Int) (w:ByteArray),V.EB w→V.Kn ⟨op,0,w,⟨0,[]⟩,[x,y]⟩ x y→V.fit c ⟨op,0,w,⟨0,[]⟩,[x,y]⟩:=fun op w hw hp=>(V.EE c _).2 ⟨hw,hk,rfl,⟨rfl,rfl⟩,.inr ⟨rfl,hp⟩⟩
 have go:∀ {r:ByteArray} {z:Ex},GO s u v (v=u)=r→Wa s u v [x,y]=z→(r≠eS→V.fit c z∧z.unit=r)→V.fit c (Wa s u v [x,y])∧(Wa s u v [x,y]).unit=GO s u v (v=u):=fun h1 h2 h3=>by
   rw [h1] at hu ⊢
   rw [h2]
   exact h3 hu
 rcases hop with h | h | h | h | h | h | h | h | h | h | h
 · obtain ⟨d1,d2,d3⟩:=hd h
   subst h
   refine go (r:=AB (u=Ak) eS u) (z:=⟨14,0,u,⟨0,[]⟩,[x,y]⟩) (by unfold GO;repeat first | rw [Ac rfl] | rw [Ab (by decide)]) (by unfold Wa;repeat first | rw [Ac rfl] | rw [Ab (by decide)]) fun hu=>?_
   obtain ⟨h1,_⟩:=Lz hu
   rw [Ab h1]
   exact ⟨two _ _ hxu (by unfold V.Kn;simp [hu0,hv0,h1,d1,d2,d3]),rfl⟩
 · clear hd
   subst h
   refine go (r:=AB (u=Ak) (AB (v=u) Ak eS) eS) (z:=⟨7,0,Ak,⟨0,[]⟩,[x,y]⟩) (by unfold GO;repeat first | rw [Ac rfl] | rw [Ab (by decide)]) (by unfold Wa;repeat first | rw [Ac rfl] | rw [Ab (by decide)]) fun hu=>?_
   obtain ⟨h1,h2⟩:=Hl hu
   obtain ⟨h2,_⟩:=Hl h2
   rw [Ac h1,Ac h2]
   exact ⟨two _ _ Ly (by unfold V.Kn;simp [hu0,hv0,h1,h2]),rfl⟩
 · clear hd
   subst h
   refine go (r:=AB (u=Ak) (AB (v=u) Ak eS) eS) (z:=⟨6,0,Ak,⟨0,[]⟩,[x,y]⟩) (by unfold GO;repeat first | rw [Ac rfl] | rw [Ab (by decide)]) (by unfold Wa;repeat first | rw [Ac rfl] | rw [Ab (by decide)]) fun hu=>?_
   obtain ⟨h1,h2⟩:=Hl hu
   obtain ⟨h2,_⟩:=Hl h2
   rw [Ac h1,Ac h2]
   exact ⟨two _ _ Ly (by unfold V.Kn;simp [hu0,hv0,h1,h2]),rfl⟩
 · clear hd
   subst h
   refine go (r:=AB (v=u) Ak eS) (z:=⟨8,0,Ak,⟨0,[]⟩,[x,y]⟩) (by unfold GO;repeat first | rw [Ac rfl] | rw [Ab (by decide)]) (by unfold Wa;repeat first | rw [Ac rfl] | rw [Ab (by decide)]) fun hu=>?_
   obtain ⟨h2,_⟩:=Hl hu
   rw [Ac h2]
   exact ⟨two _ _ Ly (by unfold V.Kn;simp [hu0,hv0,h2]),rfl⟩
 · clear hd
   subst h
   refine go (r:=AB (v=u) Ak eS) (z:=⟨5,0,Ak,⟨0,[]⟩,[⟨8,0,Ak,⟨0,[]⟩,[x,y]⟩]⟩) (by unfold GO;repeat first | rw [Ac rfl] | rw [Ab (by decide)]) (by unfold Wa;repeat first | rw [Ac rfl] | rw [Ab (by decide)]) fun hu=>?_
   obtain ⟨h2,_⟩:=Hl hu
   rw [Ac h2]
   have hin:=two 8 Ak Ly (by unfold V.Kn;simp [hu0,hv0,h2])
   refine ⟨(V.EE c _).2 ⟨Ly,fun k h=>?_,rfl,.inl ⟨⟨rfl,rfl⟩,rfl,rfl,rfl⟩⟩,rfl⟩
   rw [List.mem_singleton.1 h];exact hin
 · clear hd
   subst h
   refine go (r:=AB (v=u) (AB (u=Ak) eS Ak) eS) (z:=⟨9,0,Ak,⟨0,[]⟩,[x,y]⟩) (by unfold GO;repeat first | rw [Ac rfl] | rw [Ab (by decide)]) (by unfold Wa;repeat first | rw [Ac rfl] | rw [Ab (by decide)]) fun hu=>?_
   obtain ⟨h2,h1⟩:=Hl hu
   obtain ⟨h1,_⟩:=Lz h1
   rw [Ac h2,Ab h1]
   exact ⟨two _ _ Ly (by unfold V.Kn;simp [hu0,hv0,h1,h2]),rfl⟩
 · clear hd
   subst h
   refine go (r:=AB (v=u) (AB (u=Ak) eS Ak) eS) (z:=⟨10,0,Ak,⟨0,[]⟩,[x,y]⟩) (by unfold GO;repeat first | rw [Ac rfl] | rw [Ab (by decide)]) (by unfold Wa;repeat first | rw [Ac rfl] | rw [Ab (by decide)]) fun hu=>?_
   obtain ⟨h2,h1⟩:=Hl hu
   obtain ⟨h1,_⟩:=Lz h1
   rw [Ac h2,Ab h1]
   exact ⟨two _ _ Ly (by unfold V.Kn;simp [hu0,hv0,h1,h2]),rfl⟩
 · clear hd
   subst h
   refine go (r:=AB (v=u) (AB (u=Ak) eS u) eS) (z:=⟨11,0,u,⟨0,[]⟩,[x,y]⟩) (by unfold GO;repeat first | rw [Ac rfl] | rw [Ab (by decide)]) (by unfold Wa;repeat first | rw [Ac rfl] | rw [Ab (by decide)]) fun hu=>?_
   obtain ⟨h2,h1⟩:=Hl hu
   obtain ⟨h1,_⟩:=Lz h1
   rw [Ac h2,Ab h1]
   exact ⟨two _ _ hxu (by unfold V.Kn;simp [hu0,hv0,h1,h2]),rfl⟩
 · clear hd
   subst h
   refine go (r:=AB (v=u) (AB (u=Ak) eS u) eS) (z:=⟨12,0,u,⟨0,[]⟩,[x,y]⟩) (by unfold GO;repeat first | rw [Ac rfl] | rw [Ab (by decide)]) (by unfold Wa;repeat first | rw [Ac rfl] | rw [Ab (by decide)]) fun hu=>?_
   obtain ⟨h2,h1⟩:=Hl hu
   obtain ⟨h1,_⟩:=Lz h1
   rw [Ac h2,Ab h1]
   exact ⟨two _ _ hxu (by unfold V.Kn;simp [hu0,hv0,h1,h2]),rfl⟩
 · clear hd
   subst h
   refine go (r:=AB (u=AF) (AB (v=Ak) eS v) (AB (v=AF) (AB (u=Ak) eS u) eS)) (z:=⟨13,0,AB (u=AF) v u,⟨0,[]⟩,[x,y]⟩) (by unfold GO;repeat first | rw [Ac rfl] | rw [Ab (by decide)]) (by unfold Wa;repeat first | rw [Ac rfl] | rw [Ab (by decide)]) fun hu=>?_
   by_cases h1:u=AF
   · rw [Ac h1] at hu
     rw [Ac h1,Ac h1]
     obtain ⟨h2,_⟩:=Lz hu
     rw [Ab h2]
     exact ⟨two _ _ hyu (by unfold V.Kn;simp [hu0,hv0,h1,h2,show AF≠Ak by decide]),rfl⟩
   · rw [Ab h1] at hu
     rw [Ab h1,Ab h1]
     obtain ⟨h2,h3⟩:=Hl hu
     obtain ⟨h3,_⟩:=Lz h3
     rw [Ac h2,Ab h3]
     exact ⟨two _ _ hxu (by unfold V.Kn;simp [hu0,hv0,h2,h3,show AF≠Ak by decide]),rfl⟩
 · clear hd
   subst h
   refine go (r:=AB (u=BM) (AB (dW v) v eS) eS) (z:=⟨15,0,v,⟨0,[]⟩,[x,y]⟩) (by unfold GO;repeat first | rw [Ac rfl] | rw [Ab (by decide)]) (by unfold Wa;repeat first | rw [Ac rfl] | rw [Ab (by decide)]) fun hu=>?_
   obtain ⟨h1,h2⟩:=Hl hu
   obtain ⟨h2,_⟩:=Hl h2
   rw [Ac h1,Ac h2]
   exact ⟨two _ _ hyu (by unfold V.Kn;simp [hu0,hv0,h1,kN hyu h2]),rfl⟩
theorem qC {f:Fn} (h:Uc f):V.M3 f:=by
 obtain ⟨hr,hl,h0,hp⟩:=h
 refine ⟨hr,hl,fun i p hi=>?_⟩
 obtain ⟨q1,q2,_,q4,q5,q6,q7⟩:=hp i p hi
 obtain ⟨r1,r2⟩:=hr
 rw [RY (by omega)] at q4
 rw [RY (by omega)] at q5
 refine ⟨⟨q7,q6⟩,⟨by omega,by omega⟩,by omega,fun hi0=>h0 p (by rw [← hi0];exact hi),fun j q hj hq=>q2 q (by omega) (by rw [show i - 1=j by omega];exact hq)⟩
theorem V8 {k:Int} {x u:ByteArray}:∀ {l:List Nd},fU k l x=some u→∃ a∈l,a.kind=k∧a.name=x∧a.unit=u
 | [],h=>by rw [fU] at h;cases h
 | a::l,h=>by
   rw [fU] at h
   by_cases c:a.kind=k∧a.name=x
   · rw [Ac c] at h;cases h;exact ⟨a,by simp,c.1,c.2,rfl⟩
   · rw [Ab c] at h
     obtain ⟨b,hb,h⟩:=V8 h
     exact ⟨b,by simp [hb],h⟩
theorem dD {src:Nd} (hit:∀ k∈src.kids,FW k) {x u:ByteArray} (h:fU 2 src.kids x=some u):V.EB u:=by
 obtain ⟨a,ha,k,_,rfl⟩:=V8 h
 exact ((it2 k).1 (hit a ha)).2.1
theorem UO {src:Nd} (hit:∀ k∈src.kids,FW k) {x u:ByteArray} (h:fU 3 src.kids x=some u):V.EB u:=by
 obtain ⟨a,ha,k,_,rfl⟩:=V8 h
 exact ((it3 k).1 (hit a ha)).2.1
def Xy (src:Nd) (c:Co):Prop:=c.facts=(Fj src.kids).codex.facts∧c.lines=(Fj src.kids).codex.lines∧c.arts=(Oz 4 src.kids).map (Pr (Fj src.kids))
theorem XN {src:Nd} {c:Co} (hc:Xy src c) (hp:src.kids.Pairwise S8) {z:Int} {w:ByteArray} (h:fA src.kids z=some w) (h3:fU 3 src.kids w≠none):∃ i d,(Fj src.kids).lines.get w=some i∧V.FN c.arts z=some i∧CP c.lines i=some d∧d.name=w∧fU 3 src.kids w=some d.unit:=by
 obtain ⟨i,d,h1,h2,h4,h5⟩:=m5 hp h3
 refine ⟨i,d,h1,?_,by rw [hc.2.1];exact h2,h4,h5⟩
 rw [hc.2.2,Og,h]
 simp [h1]
theorem adr {src:Nd} (hit:∀ k∈src.kids,FW k) (hart:S0 src) (hp:src.kids.Pairwise S8) {c:Co} (hc:Xy src c):∀ (m:Nat) (e:Nd),DG e≤m→Lv e→(IM src e).2=[]→V.fit c (Kk (Fj src.kids) e)∧(Kk (Fj src.kids) e).unit=(IM src e).1:=by
 intro m
 induction m with
 | zero=>intro e h;have:=B6 e;omega
 | succ m ih =>
   intro e hm he hd
   obtain ⟨hq,hks⟩:=(JL e).1 he
   obtain ⟨hk0,hu⟩:=Ww hd
   have hkid:∀ k∈e.kids,V.fit c (Kk (Fj src.kids) k)∧(Kk (Fj src.kids) k).unit=(IM src k).1:=fun k hk=>ih k (by have:=JQ hk;omega) (hks k hk) (hk0 k hk)
   have hus:(J9 (fact src) (XO src) e.kids).1=(e.kids.map (Kk (Fj src.kids))).map (·.unit):=by
     rw [Mv,List.map_map]
     exact List.map_congr_left fun k hk=>(hkid k hk).2.symm
   have hfit:∀ x∈e.kids.map (Kk (Fj src.kids)),V.fit c x:=fun x hx=>by
     obtain ⟨k,hk,rfl⟩:=List.mem_map.1 hx
     exact (hkid k hk).1
   have hne:∀ u∈(e.kids.map (Kk (Fj src.kids))).map (·.unit),u≠eS:=fun u hu=>by
     obtain ⟨x,hx,rfl⟩:=List.mem_map.1 hu
     exact V9 ((V.EE c x).1 (hfit x hx)).1
   rw [hus] at hu
   have hU:=hu hne
   have hone:(IM src e).1=HH (fact src) (XO src) e ((e.kids.map (Kk (Fj src.kids))).map (·.unit)):=by
     unfold IM
     rw [QH]
     unfold Xz
     rw [hus,Ac hne,Ab hU]
   rw [hone,QI]
   unfold bX
   unfold HH at hU ⊢
   unfold NW at hq
   have hlen:(e.kids.map (Kk (Fj src.kids))).length=e.kids.length:=List.length_map _
   rcases hq with h | h | h | h | h | h | h | h
   · obtain ⟨k,q1,q2,q3,q4,q5,_⟩:=h
     rw [Ab (by omega),Ab (by omega),Ab (by omega),Ab (by omega),Ac k]
     unfold dX
     rw [Ac k]
     exact ⟨(V.EE c _).2 ⟨q1,fun k hk=>(by cases hk),⟨rfl,rfl⟩,.inl ⟨rfl,q2,q3,q4⟩⟩,rfl⟩
   · obtain ⟨k,q1,q2,_⟩:=h
     rw [Ab (by omega),Ac k] at hU
     rw [Ab (by omega),Ab (by omega),Ab (by omega),Ab (by omega),Ab (by omega),Ac k]
     unfold dX
     rw [Ab (by omega),Ac k]
     obtain ⟨i,d,h1,h2,h3,h4⟩:=nQ hp (x:=e.name) fun hn=>hU (by unfold fact;rw [hn];rfl)
     rw [h1,Option.getD_some]
     have hua:NN (Fj src.kids).codex.facts i=d.unit:=by unfold NN;rw [h2];rfl
     rw [hua]
     refine ⟨(V.EE c _).2 ⟨dD hit h4,fun k hk=>(by cases hk),⟨rfl,rfl⟩,.inr (.inl ⟨rfl,d,by rw [hc.1];exact h2,rfl⟩)⟩,?_⟩
     unfold fact
     rw [h4];rfl
   · obtain ⟨k,q1,q2,_⟩:=h
     rw [Ab (by omega),Ab (by omega),Ac k] at hU
     rw [Ab (by omega),Ab (by omega),Ab (by omega),Ab (by omega),Ab (by omega),Ab (by omega),Ac k]
     unfold dX
     rw [Ab (by omega),Ab (by omega),Ac k]
     unfold XO line at hU ⊢
     have h3:fU 3 src.kids ((fA src.kids e.n).getD eS)≠none:=fun hn=>hU (by rw [hn];rfl)
     cases hfa:fA src.kids e.n with
     | none =>
       rw [hfa] at h3
       obtain ⟨a,ha,ha1,ha2⟩:=X5 h3
       have h4:=((it3 ha1).1 (hit a ha)).1
       rw [ha2] at h4
       exact absurd h4 (by unfold FK;simp [eS])
     | some w =>
       rw [hfa,Option.getD_some] at h3
       obtain ⟨i,d,h5,h6,h7,h8,h9⟩:=XN hc hp hfa h3
       have hna:=Wb (lm:=(FJ src.kids).2.2.2) (z:=e.n) (w:=w) src.kids Mm.nil (fun a ha a4 an=>by
         have:=(hart a ha a4).1
         rw [an,hfa] at this
         exact this.symm) (.inr (by rw [hfa];simp))
       have hna:(Fj src.kids).Af.get e.n=some i:=by
         show (Vk (FJ src.kids).2.2.2 src.kids).get e.n=_
         unfold Vk
         rw [hna,show (FJ src.kids).2.2.2.get w=some i from h5]
         rfl
       rw [hna,Option.getD_some]
       have hua:NN (Fj src.kids).codex.lines i=d.unit:=by unfold NN;rw [← hc.2.1,h7];rfl
       rw [hua,Option.getD_some,h9]
       exact ⟨(V.EE c _).2 ⟨UO hit h9,fun k hk=>(by cases hk),⟨rfl,rfl⟩,.inr (.inr (.inl ⟨rfl,i,d,h6,h7,rfl⟩))⟩,rfl⟩
   · obtain ⟨k,q1,q2,_⟩:=h
     rw [Ab (by omega),Ab (by omega),Ab (by omega),Ab (by omega),Ab (by omega),Ab (by omega),Ab (by omega),Ac k]
     unfold dX
     rw [Ab (by omega),Ab (by omega),Ab (by omega)]
     have hdn:1≤Xh e.name∧Xh e.name≤4:=by
       unfold Xh
       rcases q1 with q | q | q | q
       · rw [q,Ac rfl];omega
       · rw [q,Ab (by decide),Ac rfl];omega
       · rw [q,Ab (by decide),Ab (by decide),Ac rfl];omega
       · rw [q,Ab (by decide),Ab (by decide),Ab (by decide),Ac rfl];omega
     exact ⟨(V.EE c _).2 ⟨.inr (.inl rfl),fun k hk=>(by cases hk),⟨rfl,rfl⟩,.inr (.inr (.inr ⟨rfl,hdn.1,hdn.2,rfl⟩))⟩,rfl⟩
   · obtain ⟨k,q1,_⟩:=h
     rw [Ab (by omega),Ab (by omega),Ab (by omega),Ab (by omega),Ac k] at hU
     rw [Ac k,Ab (by omega),Ab (by omega),Ab (by omega),Ab (by omega),Ac k]
     generalize e.kids.map (Kk (Fj src.kids))=ks at *
     match ks,(show ks.length=1 by omega) with
     | [x],_ =>
       simp only [List.map_cons,List.map_nil] at hU ⊢
       have e0:HY IP [x.unit]=GO IP x.unit x.unit (∀ u∈[x.unit],u=x.unit):=rfl
       rw [e0] at hU ⊢
       unfold GO at hU ⊢
       rw [Ab (by decide),Ac rfl] at hU ⊢
       obtain ⟨h1,h2⟩:=Hl hU
       obtain ⟨h2,_⟩:=Hl h2
       rw [Ac h1,Ac h2]
       exact ⟨(V.EE c _).2 ⟨Ly,hfit,rfl,.inl ⟨⟨rfl,rfl⟩,rfl,rfl,h1⟩⟩,rfl⟩
   · obtain ⟨k,_,q1,q2,q3⟩:=h
     rw [Ab (by omega),Ab (by omega),Ab (by omega),Ab (by omega),Ab (by omega),Ac k] at hU
     rw [Ab (by omega),Ac k,Ab (by omega),Ab (by omega),Ab (by omega),Ab (by omega),Ab (by omega),Ac k]
     have hdv:e.name=Kf→∀ y,(e.kids.map (Kk (Fj src.kids)))[1]?=some y→y.op=1∧y.unit=AF∧1≤y.n∧y.n≤1000000:=fun hn y hy=>by
       rw [List.getElem?_map] at hy
       obtain ⟨k1,hk1,rfl⟩:=Option.map_eq_some_iff.1 hy
       obtain ⟨r1,r2,r3⟩:=q3 hn k1 hk1
       rw [QI]
       unfold bX
       rw [Ab (by omega),Ab (by omega),Ab (by omega),Ab (by omega)]
       unfold dX
       rw [Ac r1]
       exact ⟨rfl,r2,r3.1,r3.2⟩
     generalize e.kids.map (Kk (Fj src.kids))=ks at *
     match ks,(show ks.length=2 by omega) with
     | [x,y],_ =>
       exact o0 q2 (hfit x (by simp)) (hfit y (by simp)) (fun hn=>hdv hn y rfl) hU
   · obtain ⟨k,q1,_,q2⟩:=h
     rw [Ab (by omega),Ab (by omega),Ab (by omega),Ab (by omega),Ab (by omega),Ab (by omega),Ac k] at hU
     rw [Ab (p:=e.kind=15) (by omega),Ab (p:=e.kind=16) (by omega),Ac k,Ab (p:=e.kind=11) (by omega),Ab (p:=e.kind=12) (by omega),Ab (p:=e.kind=13) (by omega),Ab (p:=e.kind=14) (by omega),Ab (p:=e.kind=15) (by omega),Ab (p:=e.kind=16) (by omega),Ac k]
     generalize e.kids.map (Kk (Fj src.kids))=ks at *
     match ks,(show 2≤ks.length by omega) with
     | x::y::l,_ =>
       simp only [List.map_cons] at hU ⊢
       have e0:HY K5 (x.unit::y.unit::l.map (·.unit))=GO K5 x.unit ((x.unit::y.unit::l.map (·.unit)).getLastD eS) (∀ u∈x.unit::y.unit::l.map (·.unit),u=x.unit):=rfl
       have e1:∀ (a b:ByteArray) (E:Prop),GO K5 a b E=AB E (AB (a=Ak) eS a) eS:=fun a b E=>by unfold GO;repeat first | rw [Ac rfl] | rw [Ab (by decide)]
       rw [e0,e1] at hU ⊢
       obtain ⟨h1,h2⟩:=Hl hU
       obtain ⟨h2,_⟩:=Lz h2
       rw [Ac h1,Ab h2]
       have hun:V.EB x.unit:=((V.EE c x).1 (hfit x (by simp))).1
       have hsame:∀ k∈x::y::l,k.unit=x.unit:=fun k hk=>h1 k.unit (by
         have:=List.mem_map_of_mem (f:=fun a:Ex=>a.unit) hk
         simpa using this)
       have hx:unK (x::y::l) 0=x.unit:=rfl
       rw [hx]
       by_cases hg:e.name=Ec
       · rw [Ac hg]
         exact ⟨(V.EE c _).2 ⟨hun,hfit,rfl,⟨rfl,rfl⟩,.inl ⟨.inr rfl,hsame,h2,rfl⟩⟩,rfl⟩
       · rw [Ab hg]
         exact ⟨(V.EE c _).2 ⟨hun,hfit,rfl,⟨rfl,rfl⟩,.inl ⟨.inl rfl,hsame,h2,rfl⟩⟩,rfl⟩
   · obtain ⟨k,_,q1,q2⟩:=h
     rw [Ab (by omega),Ab (by omega),Ab (by omega),Ab (by omega),Ab (by omega),Ab (by omega),Ab (by omega),Ac k] at hU
     rw [Ab (by omega),Ab (by omega),Ab (by omega),Ac k,Ab (by omega),Ab (by omega),Ab (by omega),Ab (by omega),Ab (by omega),Ab (by omega),Ab (by omega),Ac k]
     generalize e.kids.map (Kk (Fj src.kids))=ks at *
     match ks,(show ks.length=1 by omega) with
     | [x],_ =>
       simp only [List.map_cons,List.map_nil,List.headD_cons] at hU ⊢
       obtain ⟨h1,_⟩:=Hl hU
       rw [Ac h1]
       have hun:V.EB x.unit:=((V.EE c x).1 (hfit x (by simp))).1
       exact ⟨(V.EE c _).2 ⟨hun,hfit,rfl,.inr ⟨rfl,rfl,kN hun h1,qC q1⟩⟩,rfl⟩
end Mo
end Go.Proofs.YtnijkdknnmgoeaaGreat
namespace Go.Proofs.YtnijkdknnmgoeaaGreat
open AI Go
namespace Mo
set_option maxRecDepth 100000
set_option maxHeartbeats 4000000
mutual
theorem ZS:∀ e:Ex,V.Kv e=LS e
 | ⟨_,_,_,_,ks⟩=>by rw [V.Kv,LS,Wu ks]
theorem Wu:∀ l:List Ex,V.Mu l=IB l
 | []=>by rw [V.Mu,IB]
 | k::l=>by rw [V.Mu,IB,ZS k,Wu l]
end
mutual
theorem jN:∀ e:Ex,V.dp e=U1 e
 | ⟨_,_,_,_,ks⟩=>by rw [V.dp,U1,ZM ks];omega
theorem ZM:∀ l:List Ex,V.gR l=MS l
 | []=>by rw [V.gR,MS]
 | k::l=>by rw [V.gR,MS,jN k,ZM l]
end
noncomputable def ZD (t:Tr) (e:Nd):Ex:=Kk t (e.kids.headD e)
noncomputable def dgX (t:Tr) (e:Nd):List Dg:=AB (e.kind=7) [] (AB (400 < LS (ZD t e)∨40 < U1 (ZD t e)) [⟨2,e.att⟩] [])
theorem Z3 {p:Prop} {a b:List Dg}:AB p (a++b) a=a++AB p b []:=by
 by_cases h:p
 · rw [Ac h,Ac h]
 · rw [Ab h,Ab h,List.append_nil]
theorem QR (t:Tr):∀ (l:List Nd) (s:List Dg×List Int×List Ex×Ex),
   (l.foldl (Ga t) s).1=s.1++l.flatMap (dgX t)∧(l.foldl (Ga t) s).2.1=s.2.1++(Oz 7 l).flatMap (fun e=>e.kids.map (·.n))∧(l.foldl (Ga t) s).2.2.1=s.2.2.1++(Oz 6 l).map (ZD t) ∧
   (((l.foldl (Ga t) s).2.2.2=s.2.2.2∧∀ e∈l,e.kind=6∨e.kind=7)∨∃ e∈l,e.kind≠6∧e.kind≠7∧(l.foldl (Ga t) s).2.2.2=ZD t e)
 | [],s=>⟨by simp,by simp [Oz],by simp [Oz],.inl ⟨rfl,fun e he=>by cases he⟩⟩
 | a::l,s=>by
   rw [List.foldl_cons]
   obtain ⟨h1,h2,h3,h4⟩:=QR t l (Ga t s a)
   by_cases k7:a.kind=7
   · have hs:Ga t s a=(s.1,s.2.1++a.kids.map (·.n),s.2.2):=by unfold Ga;rw [Ac k7]
     rw [hs] at h1 h2 h3 h4 ⊢
     refine ⟨?_,?_,?_,?_⟩
     · rw [h1,List.flatMap_cons,dgX,Ac k7];rfl
     · rw [h2,KR k7,List.flatMap_cons,List.append_assoc]
     · rw [h3,Km (by omega)]
     · rcases h4 with h4 | ⟨e,he,h4⟩
       · exact .inl ⟨h4.1,fun e he=>(List.mem_cons.1 he).elim (fun q=>.inr (q▸k7)) (h4.2 e)⟩
       · exact .inr ⟨e,by simp [he],h4⟩
   by_cases k6:a.kind=6
   · have hs:Ga t s a=(s.1++AB (400 < LS (ZD t a)∨40 < U1 (ZD t a)) [⟨2,a.att⟩] [],s.2.1,s.2.2.1++[ZD t a],s.2.2.2):=by unfold Ga;rw [Ab k7,Ac k6,Z3];rfl
     rw [hs] at h1 h2 h3 h4 ⊢
     refine ⟨?_,?_,?_,?_⟩
     · rw [h1,List.flatMap_cons,dgX,Ab k7,List.append_assoc]
     · rw [h2,Km k7]
     · rw [h3,KR k6,List.map_cons,List.append_assoc];rfl
     · rcases h4 with h4 | ⟨e,he,h4⟩
       · exact .inl ⟨h4.1,fun e he=>(List.mem_cons.1 he).elim (fun q=>.inl (q▸k6)) (h4.2 e)⟩
       · exact .inr ⟨e,by simp [he],h4⟩
   · have hs:Ga t s a=(s.1++AB (400 < LS (ZD t a)∨40 < U1 (ZD t a)) [⟨2,a.att⟩] [],s.2.1,s.2.2.1,ZD t a):=by unfold Ga;rw [Ab k7,Ab k6,Z3];rfl
     rw [hs] at h1 h2 h3 h4 ⊢
     refine ⟨?_,?_,?_,?_⟩
     · rw [h1,List.flatMap_cons,dgX,Ab k7,List.append_assoc]
     · rw [h2,Km k7]
     · rw [h3,Km k6]
     · rcases h4 with h4 | ⟨e,he,h4⟩
       · exact .inr ⟨a,by simp,k6,k7,h4.1⟩
       · exact .inr ⟨e,by simp [he],h4⟩
theorem iG {k:Int} {l:List Nd} (h:0 < Bi k l):∃ e∈l,e.kind=k:=by
 rw [← KM] at h
 obtain ⟨e,he⟩:=List.exists_mem_of_length_pos h
 exact ⟨e,JU.1 he⟩
theorem Yu {z:Int}:∀ {l:List Nd} {a:Nd},a∈l→a.kind=4→a.n=z→fA l z≠none
 | b::l,a,h,k,hz=>by
   rw [fA]
   by_cases hb:b.kind=4∧b.n=z
   · rw [Ac hb];simp
   · rw [Ab hb]
     rcases List.mem_cons.1 h with rfl | h
     · exact absurd ⟨k,hz⟩ hb
     · exact Yu h k hz
theorem WW {l:List Nd} {k lo hi:Int} {f:Nd→Dc} (hk:k=2∨k=3) (hp:l.Pairwise S8) (hf:∀ a∈l,a.kind=k→V.FK a.name∧V.EB (f a).unit∧lo≤(f a).role∧(f a).role≤hi) (hn:∀ a,(f a).name=a.name):V.Pa ((Oz k l).map f) lo hi:=by
 intro i d hd
 rw [List.getElem?_map] at hd
 obtain ⟨a,ha,rfl⟩:=Option.map_eq_some_iff.1 hd
 obtain ⟨hal,hak⟩:=JU.1 (List.mem_of_getElem? ha)
 obtain ⟨q1,q2,q3,q4⟩:=hf a hal hak
 refine ⟨by rw [hn];exact q1,q2,q3,q4,fun j e hj he=>?_⟩
 rw [List.getElem?_map] at he
 obtain ⟨b,hb,rfl⟩:=Option.map_eq_some_iff.1 he
 obtain ⟨hbl,hbk⟩:=JU.1 (List.mem_of_getElem? hb)
 rw [hn,hn]
 have hpw:(Oz k l).Pairwise S8:=hp.filter _
 have:=List.pairwise_iff_getElem.1 hpw j i (List.getElem?_eq_some_iff.1 hb).1 (List.getElem?_eq_some_iff.1 ha).1 hj
 rw [(List.getElem?_eq_some_iff.1 hb).2,(List.getElem?_eq_some_iff.1 ha).2] at this
 exact this (by omega) (by omega)
structure Chk (n:Nd):Prop where
 hit:∀ k∈n.kids,FW k
 hart:S0 n
 one:n.kids.Pairwise S8
 few:Bi 2 n.kids≤32∧Bi 3 n.kids≤32∧Bi 4 n.kids≤60
 cls:∀ a∈n.kids,a.kind=4→∀ x∈a.kids.tail,FI n a x=[]
theorem iB {n:Nd} (hv:Rb n) (hk:n.kind=1) (hc:G2 n=[]):Chk n:=by
 have hr:=U9 hv hk hc
 unfold OT at hr
 obtain ⟨hd,hr⟩:=List.append_eq_nil_iff.1 hr
 obtain ⟨_,hit,_,_⟩:=RF hv hk
 obtain ⟨_,h1,h2⟩:=TV hd
 refine ⟨hit,(checked hv hk hc).1,h1,⟨?_,?_,?_⟩,fun a ha k4=>?_⟩
 · have:=h2 2 (.inl rfl) (by simp [Bi]);simpa using this
 · have:=h2 3 (.inr rfl) (by simp [Bi]);simpa using this
 · have:=QO hr (by omega);omega
 · obtain ⟨c,h⟩:=QF hr a ha
   unfold T7 at h
   rw [Ac k4,List.append_eq_nil_iff] at h
   exact List.flatMap_eq_nil_iff.1 h.2
theorem TX {n:Nd} {c:Co} (hn:Chk n) (hc:Xy n c) {a x:Nd} (ha:a∈n.kids) (k4:a.kind=4) (hx:x∈a.kids.tail) (k7:x.kind≠7) (hdg:dgX (Fj n.kids) x=[]) (hw:AB (x.kind=6) Ak (line n a.name)≠eS):V.whole c (ZD (Fj n.kids) x) (AB (x.kind=6) Ak (line n a.name)):=by
 have hce:=hn.cls a ha k4 x hx
 obtain ⟨_,_,_,h,cs,hkids,_,_,_,_,hcl⟩:=(sF k4).1 (hn.hit a ha)
 rw [hkids,List.tail_cons] at hx
 obtain ⟨hl,hex⟩:=(hcl x hx).2.2 k7
 unfold FI at hce
 rw [Ab k7] at hce
 unfold dgX at hdg
 rw [Ab k7] at hdg
 have hsm:¬ (400 < LS (ZD (Fj n.kids) x)∨40 < U1 (ZD (Fj n.kids) x)):=fun q=>by rw [Ac q] at hdg;cases hdg
 unfold ZD at hsm ⊢
 generalize x.kids=ks at *
 match ks,hl with
 | [k],_ =>
   rw [List.headD_cons] at hsm ⊢
   have hwk:=List.flatMap_eq_nil_iff.1 hce k (by simp)
   unfold OK at hwk
   obtain ⟨h1,h2⟩:=List.append_eq_nil_iff.1 hwk
   obtain ⟨f1,f2⟩:=adr hn.hit hn.hart hn.one hc (DG k) k (Nat.le_refl _) (hex k (by simp)) h1
   have hne:(IM n k).1≠eS:=by rw [← f2];exact V9 ((V.EE c _).1 f1).1
   refine ⟨⟨by rw [ZS];omega,by rw [jN];omega⟩,f1,?_⟩
   rw [f2]
   by_cases hq:(IM n k).1=AB (x.kind=6) Ak (line n a.name)
   · exact hq
   · rw [Ac ⟨hne,hw,hq⟩] at h2;cases h2
theorem eP {n:Nd} {c:Co} (hn:Chk n) (hc:Xy n c) (hb:∀ a∈n.kids,a.kind=4→(D8 (Fj n.kids) a.kids.tail).1=[]):V.O1 c:=by
 obtain ⟨c1,c2,c3⟩:=hc
 refine ⟨⟨?_,?_⟩,⟨?_,?_⟩,?_,?_⟩
 · rw [c1,RX]
   exact WW (.inl rfl) hn.one (fun a ha k=>by
     obtain ⟨h1,h2,_⟩:=(it2 k).1 (hn.hit a ha)
     exact ⟨h1,h2,Int.le_refl _,Int.le_refl _⟩) fun a=>rfl
 · rw [c1,RX,List.length_map,KM];exact hn.few.1
 · rw [c2,RL]
   exact WW (.inr rfl) hn.one (fun a ha k=>by
     obtain ⟨h1,h2,h3,h4,_⟩:=(it3 k).1 (hn.hit a ha)
     exact ⟨h1,h2,h3,h4⟩) fun a=>rfl
 · rw [c2,RL,List.length_map,KM];exact hn.few.2.1
 · rw [c3,List.length_map,KM];exact hn.few.2.2
 intro v hv
 have hv0:=hv
 rw [c3] at hv
 obtain ⟨a,ha,rfl⟩:=List.mem_map.1 hv
 obtain ⟨ha,k4⟩:=JU.1 ha
 obtain ⟨hr,hnm,_,h,cs,hkids,hki,h8,_,hh,hcl⟩:=(sF k4).1 (hn.hit a ha)
 obtain ⟨_,hh1,_,hh2,hh3,hh4,_⟩:=hh
 obtain ⟨hat,h3n⟩:=hn.hart a ha k4
 have hfa:fA n.kids a.n=some a.name:=by
   cases hq:fA n.kids a.n with
   | none=>exact absurd hq (Yu ha k4 rfl)
   | some w=>rw [hq] at hat;rw [← hat];rfl
 obtain ⟨i,d,l1,l2,l3,l4,l5⟩:=XN ⟨c1,c2,c3⟩ hn.one hfa h3n
 have hline:(Pr (Fj n.kids) a).line=i:=by
   show ((Fj n.kids).lines.get a.name).getD 0=i
   rw [l1];rfl
 have hlin:line n a.name=d.unit:=by unfold line;rw [l5];rfl
 have hd:=V9 (UO hn.hit l5)
 have hfold:=QR (Fj n.kids) a.kids.tail ([],[],[],⟨0,0,ByteArray.empty,⟨0,[]⟩,[]⟩)
 obtain ⟨g1,g2,g3,g4⟩:=hfold
 have hbn:=hb a ha k4
 unfold D8 at hbn
 rw [g1,List.nil_append] at hbn
 have hdg:=List.flatMap_eq_nil_iff.1 hbn
 have hcs:a.kids.tail=cs:=by rw [hkids,List.tail_cons]
 refine ⟨⟨hr,?_,?_⟩,⟨?_,?_,?_,?_,?_,d,?_,?_⟩⟩
 · rw [hline];exact (V.aG l3).1
 · rw [hline];exact l2
 · show 0≤(a.kids.headD a).n∧(a.kids.headD a).n≤1000000
   rw [hkids,List.headD_cons];exact hh1
 · show 0≤(a.kids.headD a).fr∧(a.kids.headD a).fr < (a.kids.headD a).to∧(a.kids.headD a).to≤36525
   rw [hkids,List.headD_cons];exact ⟨hh2.1,hh3⟩
 · show 0≤(a.kids.headD a).known∧(a.kids.headD a).known≤36524
   rw [hkids,List.headD_cons];exact hh4
 · intro z hz
   have hz:z∈(D8 (Fj n.kids) a.kids.tail).2.1:=hz
   unfold D8 at hz
   rw [g2,List.nil_append] at hz
   obtain ⟨x,hx,hz⟩:=List.mem_flatMap.1 hz
   obtain ⟨hx,k7⟩:=JU.1 hx
   obtain ⟨k,hk,rfl⟩:=List.mem_map.1 hz
   have hce:=hn.cls a ha k4 x hx
   unfold FI at hce
   rw [Ac k7] at hce
   have hu:=List.flatMap_eq_nil_iff.1 hce k hk
   unfold FH at hu
   by_cases u1:k.n=a.n
   · rw [Ac u1] at hu;cases hu
   rw [Ab u1] at hu
   by_cases u2:fA n.kids k.n=none
   · rw [Ac u2] at hu;cases hu
   rw [c3,Og]
   cases hq:fA n.kids k.n with
   | none=>exact absurd hq u2
   | some w=>simp
 · intro e he
   have he:e∈(D8 (Fj n.kids) a.kids.tail).2.2.1:=he
   unfold D8 at he
   rw [g3,List.nil_append] at he
   obtain ⟨x,hx,rfl⟩:=List.mem_map.1 he
   obtain ⟨hx,k6⟩:=JU.1 hx
   have:=TX hn ⟨c1,c2,c3⟩ ha k4 hx (by omega) (hdg x hx) (by rw [Ac k6];decide)
   rwa [Ac k6] at this
 · rw [hline];exact l3
 · rcases g4 with ⟨_,g4⟩ | ⟨x,hx,x6,x7,g4⟩
   · obtain ⟨x,hx,x8⟩:=iG (k:=8) (l:=cs) (by omega)
     have:=g4 x (by rw [hcs];exact hx)
     omega
   · have:=TX hn ⟨c1,c2,c3⟩ ha k4 hx x7 (hdg x hx) (by rw [Ab x6,hlin];exact hd)
     rw [Ab x6,hlin] at this
     show V.whole c (D8 (Fj n.kids) a.kids.tail).2.2.2 d.unit
     unfold D8
     rw [g4];exact this
theorem Xc {n:Nd} (h:(DE n).2=[]):V.O1 (DE n).1:=by
 obtain ⟨hk,hv,hc,hb,he⟩:=Su h
 rw [he]
 exact eP (iB hv hk hc) ⟨rfl,rfl,XB _ _⟩ fun a ha k4=>iF hb ha k4
end Mo
end Go.Proofs.YtnijkdknnmgoeaaGreat
namespace Go.Proofs.YtnijkdknnmgoeaaGreat
open AI Go
namespace Mo
set_option maxRecDepth 100000
set_option maxHeartbeats 4000000
mutual
def Ef:Nd→Nd
 | ⟨kind,name,unit,n,fr,to,known,tab,kids,_⟩=>⟨kind,name,unit,n,fr,to,known,tab,stL kids,0⟩
def stL:List Nd→List Nd
 | []=>[]
 | k::ks=>Ef k::stL ks
end
theorem Z6:∀ l:List Nd,stL l=l.map Ef
 | []=>by rw [stL];rfl
 | k::l=>by rw [stL,Z6 l];rfl
theorem Ki (n:Nd):Ef n=⟨n.kind,n.name,n.unit,n.n,n.fr,n.to,n.known,n.tab,n.kids.map Ef,0⟩:=by cases n;rw [Ef,Z6]
section
variable (n:Nd)
theorem DC:(Ef n).kind=n.kind:=by rw [Ki]
theorem Gc:(Ef n).name=n.name:=by rw [Ki]
theorem KF:(Ef n).unit=n.unit:=by rw [Ki]
theorem Nj:(Ef n).n=n.n:=by rw [Ki]
theorem iA:(Ef n).fr=n.fr:=by rw [Ki]
theorem iQ:(Ef n).to=n.to:=by rw [Ki]
theorem Tc:(Ef n).known=n.known:=by rw [Ki]
theorem Yf:(Ef n).tab=n.tab:=by rw [Ki]
theorem DR:(Ef n).kids=n.kids.map Ef:=by rw [Ki]
theorem Qz:(Ef n).att=0:=by rw [Ki]
end
theorem gT:∀ {l:List Nd},(∀ k∈l,DG (Ef k)=DG k∧L3 (Ef k)=L3 k)→GR (l.map Ef)=GR l∧ZU (l.map Ef)=ZU l
 | [],_=>⟨rfl,rfl⟩
 | a::l,h=>by
   obtain ⟨h1,h2⟩:=h a (by simp)
   obtain ⟨h3,h4⟩:=gT (l:=l) fun k hk=>h k (by simp [hk])
   simp only [List.map_cons,GR,ZU,h1,h2,h3,h4,and_self]
theorem wZ {p:Nd→Prop} (h:∀ n,(∀ k∈n.kids,p k)→p n):∀ (m:Nat) (n:Nd),DG n≤m→p n:=by
 intro m
 induction m with
 | zero=>intro n h;have:=B6 n;omega
 | succ m ih =>
   intro n hn
   have hsz:=B6 n
   exact h n fun k hk=>ih k (by have:=EY hk;omega)
theorem SR {p:Nd→Prop} (h:∀ n,(∀ k∈n.kids,p k)→p n) (n:Nd):p n:=wZ h (DG n) n (Nat.le_refl _)
theorem eK (n:Nd):DG (Ef n)=DG n∧L3 (Ef n)=L3 n:=by
 refine SR (p:=fun n=>DG (Ef n)=DG n∧L3 (Ef n)=L3 n) (fun n ih=>?_) n
 obtain ⟨h1,h2⟩:=gT (l:=n.kids) ih
 rw [B6 (Ef n),LM (Ef n),LM n,B6 n,DR,h1,h2]
 exact ⟨rfl,rfl⟩
theorem abN {n:Nd}:FM n→FM (Ef n):=by
 refine SR (p:=fun n=>FM n→FM (Ef n)) (fun n ih hok=>?_) n
 obtain ⟨p1,p2,p3⟩:=(Qa n).1 hok
 rw [Ki]
 refine (Qa _).2 ⟨p1,by simpa using p2,fun y hy=>?_⟩
 obtain ⟨k,hk,rfl⟩:=List.mem_map.1 hy
 exact ih k hk (p3 k hk)
theorem ac0 {n:Nd} {i:Nat} {q:Nd→Prop} (hq:∀ k,q (Ef k)↔q k):(∀ k,(Ef n).kids[i]?=some k→q k)↔∀ k,n.kids[i]?=some k→q k:=by
 rw [DR]
 constructor
 · intro h k hk
   exact (hq k).1 (h _ (by rw [List.getElem?_map,hk];rfl))
 · intro h k hk
   rw [List.getElem?_map] at hk
   obtain ⟨y,hy,rfl⟩:=Option.map_eq_some_iff.1 hk
   exact (hq y).2 (h y hy)
theorem Pn {l:List Nd} {q:Nd→Prop} (hq:∀ k∈l,q (Ef k)↔q k):(∀ k∈l.map Ef,q k)↔∀ k∈l,q k:=by
 constructor
 · intro h k hk
   exact (hq k hk).1 (h _ (List.mem_map_of_mem hk))
 · intro h k hk
   obtain ⟨y,hy,rfl⟩:=List.mem_map.1 hk
   exact (hq y hy).2 (h y hy)
theorem kH (k:Nd):MA (Ef k)↔MA k:=by unfold MA;rw [DC,KF,Nj]
theorem Oh (n f:Nd):DQ (Ef n) f↔DQ n f:=by unfold DQ;rw [Gc,KF,Nj,iA,iQ,Tc,Yf]
theorem yD (n:Nd):NW (Ef n)↔NW n:=by
 unfold NW
 rw [ac0 kH]
 simp only [Oh,DC,KF,Nj,Gc,Yf,DR,List.length_map]
theorem YP (n:Nd):Lv (Ef n)↔Lv n:=by
 refine SR (p:=fun n=>Lv (Ef n)↔Lv n) (fun n ih=>?_) n
 rw [JL,JL,yD,DR,Pn ih]
theorem MW (k:Int):∀ l:List Nd,Bi k (l.map Ef)=Bi k l
 | []=>rfl
 | a::l=>by rw [List.map_cons,Bi,Bi,DC,MW k l]
theorem U7 (x:Nd):B0 (Ef x)↔B0 x:=by
 unfold B0
 rw [Oh,DC,DR,List.length_map,Pn (fun k _=>and_congr (YP k) (kH k)),Pn (fun k _=>YP k)]
theorem ZN (x:Nd):IG (Ef x)↔IG x:=by
 unfold IG
 simp only [Oh,DC,Nj,iA,iQ,Tc,DR,List.length_map]
theorem zG (n:Nd):X1 (Ef n)↔X1 n:=by
 unfold X1
 rw [Oh,Gc,Nj,DR]
 refine and_congr_right fun _=>and_congr_right fun _=>and_congr_right fun _=>?_
 cases n.kids with
 | nil=>exact ⟨fun ⟨h,cs,e,_⟩=>(nomatch e),fun ⟨h,cs,e,_⟩=>(nomatch e)⟩
 | cons a l =>
   have hk:kinds (l.map Ef)↔kinds l:=by unfold kinds;exact Pn fun k _=>by rw [DC]
   constructor
   · rintro ⟨h,cs,e,h1,h2,h3,h4,h5⟩
     rw [List.map_cons] at e
     cases e
     exact ⟨a,l,rfl,hk.1 h1,by rwa [MW] at h2,by rwa [MW] at h3,(ZN a).1 h4,(Pn fun k _=>U7 k).1 h5⟩
   · rintro ⟨h,cs,e,h1,h2,h3,h4,h5⟩
     cases e
     exact ⟨Ef a,l.map Ef,rfl,hk.2 h1,by rwa [MW],by rwa [MW],(ZN a).2 h4,(Pn fun k _=>U7 k).2 h5⟩
theorem m9 (n:Nd):FW (Ef n)↔FW n:=by
 unfold FW
 rw [zG]
 simp only [Oh,DC,Nj,Gc,KF,DR,List.length_map]
theorem iO (n:Nd):Rb (Ef n)↔Rb n:=by
 unfold Rb
 rw [Oh,DC,YP,(eK n).1,(eK n).2,DR,Pn fun k _=>m9 k]
def Ov (d:Dg):Dg:=⟨d.err,0⟩
theorem Qo {p:Prop} {x y:List Dg}:(AB p x y).map Ov=AB p (x.map Ov) (y.map Ov):=by
 by_cases h:p
 · rw [Ac h,Ac h]
 · rw [Ab h,Ab h]
theorem Zo (e at_:Int):[(⟨e,at_⟩:Dg)].map Ov=[⟨e,0⟩]:=rfl
theorem S1 {α:Type} {f g:α→List Dg}:∀ {l:List α},(∀ a∈l,f a=(g a).map Ov)→l.flatMap f=(l.flatMap g).map Ov
 | [],_=>rfl
 | a::l,k=>by rw [List.flatMap_cons,List.flatMap_cons,k a (by simp),S1 fun b hb=>k b (by simp [hb]),List.map_append]
theorem lQ {F:ByteArray→ByteArray} {A:Int→ByteArray} (n:Nd) (us:List ByteArray):HH F A (Ef n) us=HH F A n us:=by
 unfold HH
 rw [DC,KF,Gc,Nj]
theorem aa6 (F:ByteArray→ByteArray) (A:Int→ByteArray) (n:Nd):OB F A (Ef n)=((OB F A n).1,(OB F A n).2.map Ov):=by
 refine SR (p:=fun n=>OB F A (Ef n)=((OB F A n).1,(OB F A n).2.map Ov)) (fun n ih=>?_) n
 have hl:J9 F A (n.kids.map Ef)=((J9 F A n.kids).1,(J9 F A n.kids).2.map Ov):=by
   rw [Mv,Mv,List.map_map,List.flatMap_map]
   refine Prod.ext (List.map_congr_left fun k h1=>?_) (S1 fun k h1=>?_)
   · show (OB F A (Ef k)).1=_
     rw [ih k h1]
   · show (OB F A (Ef k)).2=_
     rw [ih k h1]
 rw [QH,QH,DR,hl]
 generalize J9 F A n.kids=r
 obtain ⟨us,ds⟩:=r
 unfold Xz
 rw [lQ,show NQ (Ef n)=NQ n by unfold NQ;rw [DC],Qz]
 dsimp only
 by_cases h1:∀ u∈us,u≠eS
 · rw [Ac h1,Ac h1]
   by_cases h2:HH F A n us=eS
   · rw [Ac h2,Ac h2,List.map_append];rfl
   · rw [Ab h2,Ab h2]
 · rw [Ab h1,Ab h1]
theorem Zx (k:Int) (x:ByteArray):∀ l:List Nd,fU k (l.map Ef) x=fU k l x
 | []=>rfl
 | a::l=>by rw [List.map_cons,fU,fU,Zx k x l,DC,Gc,KF]
theorem aI (z:Int):∀ l:List Nd,fA (l.map Ef) z=fA l z
 | []=>rfl
 | a::l=>by rw [List.map_cons,fA,fA,aI z l,DC,Gc,Nj]
theorem Z1 (src:Nd) (x:ByteArray):line (Ef src) x=line src x:=by unfold line;rw [DR,Zx]
theorem aaC (src n:Nd):IM (Ef src) (Ef n)=((IM src n).1,(IM src n).2.map Ov):=by
 unfold IM
 rw [aa6,show fact (Ef src)=fact src from funext fun x=>by unfold fact;rw [DR,Zx],show XO (Ef src)=XO src from funext fun z=>by unfold XO;rw [Z1,DR,aI]]
theorem m3 (b:List Nd) (a:Nd):Ik (b.map Ef) (Ef a)=(Ik b a).map Ov:=by
 have hex:(∃ k∈b.map Ef,k.kind=a.kind∧k.name=a.name)↔∃ k∈b,k.kind=a.kind∧k.name=a.name:=by
   constructor
   · rintro ⟨k,hk,h⟩
     obtain ⟨k',hk',rfl⟩:=List.mem_map.1 hk
     rw [DC,Gc] at h
     exact ⟨k',hk',h⟩
   · rintro ⟨k,hk,h⟩
     exact ⟨_,List.mem_map_of_mem hk,by rw [DC,Gc];exact h⟩
 unfold Ik
 rw [DC,Gc,KF,Nj,Qz,propext hex,MW]
 simp only [Qo,Zo,List.map_nil]
theorem Xl:∀ (l b:List Nd),Fs (b.map Ef) (l.map Ef)=(Fs b l).map Ov
 | [],b=>rfl
 | a::l,b=>by
   rw [List.map_cons,Fs,Fs,m3,List.map_append,← Xl l (b++[a]),List.map_append];rfl
theorem jM (src:Nd) (c:Nat) (a:Nd):Gw (Ef src) c (Ef a)=(Gw src c a).map Ov:=by
 unfold Gw
 rw [DR,Zx,aI,Gc,Nj,Qz]
 simp only [Qo,Zo,List.map_nil]
theorem Y6 (src a k:Nd):FH (Ef src) (Ef a) (Ef k)=(FH src a k).map Ov:=by
 unfold FH
 rw [DR,aI,Nj,Nj,Qz]
 simp only [Qo,Zo,List.map_nil]
theorem kC (src:Nd) (w:ByteArray) (k:Nd):OK (Ef src) w (Ef k)=(OK src w k).map Ov:=by
 unfold OK
 rw [aaC,Qz,List.map_append]
 simp only [Qo,Zo,List.map_nil]
theorem YS (src a x:Nd):FI (Ef src) (Ef a) (Ef x)=(FI src a x).map Ov:=by
 unfold FI
 rw [DR,DC,Z1,Gc,List.flatMap_map,List.flatMap_map,S1 (fun k _=>Y6 src a k),S1 (fun k _=>kC src _ k),← Qo]
theorem pF (src:Nd) (c:Nat) (a:Nd):T7 (Ef src) c (Ef a)=(T7 src c a).map Ov:=by
 unfold T7
 rw [DC,jM,DR,show (a.kids.map Ef).tail=a.kids.tail.map Ef from List.map_tail.symm,List.flatMap_map,S1 (fun k _=>YS src a k),Qo,List.map_append]
 rfl
theorem WK (src:Nd):∀ (l:List Nd) (c:Nat),Ju (Ef src) c (l.map Ef)=(Ju src c l).map Ov
 | [],c=>rfl
 | a::l,c=>by
   rw [List.map_cons,Ju,Ju,pF,WK src l,List.map_append,show Bi 4 [Ef a]=Bi 4 [a] from MW 4 [a]]
theorem aX (src:Nd):OT (Ef src)=(OT src).map Ov:=by
 unfold OT
 rw [DR,WK,show Fs [] (src.kids.map Ef)=_ from Xl src.kids [],List.map_append]
theorem dA (src:Nd):G2 (Ef src)=(G2 src).map Ov:=by
 unfold G2
 rw [DC,propext (iO src),aX,Qo]
 unfold cap
 rw [List.nil_append,List.nil_append,List.map_take]
 rfl
theorem ab1 (l:List Nd):FJ (l.map Ef)=FJ l:=by
 unfold FJ
 rw [List.foldl_map]
 congr 1
 funext s e
 unfold P6
 rw [DC,Gc,KF,Nj]
theorem aca (m:Mm ByteArray Int) (l:List Nd):Vk m (l.map Ef)=Vk m l:=by
 unfold Vk
 rw [List.foldl_map]
 congr 1
 funext s e
 unfold na1
 rw [DC,Gc,Nj]
theorem acA (l:List Nd):Fj (l.map Ef)=Fj l:=by unfold Fj;rw [ab1,aca]
theorem yV (t:Tr) (n:Nd):Kk t (Ef n)=Kk t n:=by
 refine SR (p:=fun n=>Kk t (Ef n)=Kk t n) (fun n ih=>?_) n
 rw [QI,QI,DR,List.map_map,show n.kids.map (Kk t∘Ef)=n.kids.map (Kk t) from List.map_congr_left ih]
 unfold bX dX
 rw [DC,Gc,Nj,KF,Yf]
theorem Wj (l:List Nd) (e:Nd):(l.map Ef).headD (Ef e)=Ef (l.headD e):=by cases l<;>rfl
theorem rJ (t:Tr) (d:List Dg) (u:List Int×List Ex×Ex) (e:Nd):Ga t (d.map Ov,u) (Ef e)=((Ga t (d,u) e).1.map Ov,(Ga t (d,u) e).2):=by
 unfold Ga
 rw [DC,DR,Wj,yV,Qz]
 have hn:(e.kids.map Ef).map (·.n)=e.kids.map (·.n):=by
   rw [List.map_map]
   exact List.map_congr_left fun k _=>Nj k
 rw [hn]
 by_cases k7:e.kind=7
 · rw [Ac k7,Ac k7]
 rw [Ab k7,Ab k7]
 by_cases k6:e.kind=6
 · rw [Ac k6,Ac k6,Qo,List.map_append];rfl
 · rw [Ab k6,Ab k6,Qo,List.map_append];rfl
theorem XH (t:Tr) (l:List Nd):D8 t (l.map Ef)=((D8 t l).1.map Ov,(D8 t l).2):=by
 unfold D8
 rw [List.foldl_map]
 suffices h:∀ s:List Dg×List Int×List Ex×Ex,l.foldl (fun x y=>Ga t x (Ef y)) (s.1.map Ov,s.2)=((l.foldl (Ga t) s).1.map Ov,(l.foldl (Ga t) s).2) from h ([],[],[],⟨0,0,ByteArray.empty,⟨0,[]⟩,[]⟩)
 induction l with
 | nil=>intro s;rfl
 | cons a l ih =>
   intro s
   rw [List.foldl_cons,List.foldl_cons,rJ]
   exact ih _
theorem wO (t:Tr) (it:Nd):Pr t (Ef it)=Pr t it:=by
 unfold Pr
 rw [DR,Wj,Nj,Nj,Gc,iA,iQ,Tc,show (it.kids.map Ef).tail=it.kids.tail.map Ef from List.map_tail.symm,XH]
theorem vN (t:Tr) (l:List Nd):Ls t (l.map Ef)=((Ls t l).1.map Ov,(Ls t l).2):=by
 unfold Ls
 rw [List.foldl_map]
 suffices h:∀ s:List Dg×List Ar,l.foldl (fun x y=>b1 t x (Ef y)) (s.1.map Ov,s.2)=((l.foldl (b1 t) s).1.map Ov,(l.foldl (b1 t) s).2) from h ([],[])
 induction l with
 | nil=>intro s;rfl
 | cons a l ih =>
   intro s
   rw [List.foldl_cons,List.foldl_cons]
   have:b1 t (s.1.map Ov,s.2) (Ef a)=((b1 t s a).1.map Ov,(b1 t s a).2):=by
     unfold b1
     rw [DC,wO,DR,show (a.kids.map Ef).tail=a.kids.tail.map Ef from List.map_tail.symm,XH]
     by_cases k4:a.kind=4
     · rw [Ac k4,Ac k4,List.map_append]
     · rw [Ab k4,Ab k4]
   rw [this]
   exact ih _
theorem Q8 {l:List Dg}:l.map Ov=[]↔l=[]:=List.map_eq_nil_iff
theorem eI (n:Nd):DE (Ef n)=((DE n).1,(DE n).2.map Ov):=by
 unfold DE
 rw [DC,propext (iO n),dA,DR,acA,vN]
 by_cases h1:n.kind=1∧Rb n
 rotate_left
 · rw [Ab h1,Ab h1];rfl
 rw [Ac h1,Ac h1,propext Q8,propext Q8]
 by_cases h2:G2 n=[]
 rotate_left
 · rw [Ab h2,Ab h2]
 rw [Ac h2,Ac h2]
 by_cases h3:(Ls (Fj n.kids) n.kids).1=[]
 · rw [Ac h3,Ac h3];rfl
 · rw [Ab h3,Ab h3,List.map_take]
end Mo
end Go.Proofs.YtnijkdknnmgoeaaGreat
namespace Go.Proofs.YtnijkdknnmgoeaaGreat
open AI Go
namespace Mo
set_option maxRecDepth 100000
set_option maxHeartbeats 4000000
mutual
def Qu:Ex→Prop
 | ⟨_,_,_,tab,kids⟩=>tab.ps.length≤1000∧cO kids
def cO:List Ex→Prop
 | []=>True
 | k::ks=>Qu k∧cO ks
end
theorem NM {l:List Ex}:cO l↔∀ k∈l,Qu k:=by
 induction l with
 | nil=>simp [cO]
 | cons k l ih=>simp [cO,ih]
theorem Zh (e:Ex):Qu e↔e.tab.ps.length≤1000∧∀ k∈e.kids,Qu k:=by cases e;rw [Qu,NM]
theorem Oj {α:Type} {l:List α} {body:Nat→α→Unit→Option (Lp Unit Unit Bool)} (hl:l.length≤9223372036854775807) (hb:∀ i y,l[i]?=some y→body i y ()=some (.nx ())):(GW l.length (AL body (fun _=>()) (l.drop 0) 0 ())).bind (GQ (fun (_:Unit)=>some true) (fun v=>some v))=some true:=by
 rw [K2]
 refine FA (fun _ _=>True) hl trivial (fun i y x hy _=>?_) (fun x _=>?_)
 · rw [hb i y hy,Bm,F0];trivial
 · rw [Bm]
theorem aS (x:ByteArray):(x == x)=true:=by
 first
   | exact beq_self_eq_true x
   | (cases x;rename_i d;show (d == d)=true;simp)
   | (cases x;rename_i d;simp [BEq.beq])
theorem N0 (x:Dc):LI x x=true:=by unfold LI;simp [aS]
theorem XG (x:Pc):MY x x=true:=by unfold MY;simp
theorem Yw (f:Fn) (h:f.ps.length≤9223372036854775807):Gg f f=some true:=by
 rw [Gg]
 simp only [HN]
 rw [Ac trivial,Ac trivial]
 refine Oj h (fun i y hy=>?_)
 rw [G7,hy,Option.bind_some,XG,cond_true]
theorem yL:∀ (q:Nat) (e:Ex),LS e≤q→LS e≤1000000→Qu e→F4 q e e=some true:=by
 intro q
 induction q with
 | zero=>intro e h;have:=O2 e;omega
 | succ q ih =>
   intro e hq hz ho
   have he:=O2 e
   have hl:=SO e.kids
   obtain ⟨h1,h2⟩:=(Zh e).1 ho
   rw [F4,KN]
   simp only [HN,Nc]
   rw [Ac trivial,Ac trivial,Ac trivial,Yw _ (by omega),Option.bind_some,cond_true,Ac trivial]
   refine Oj (by omega) (fun i y hy=>?_)
   have hm:=List.mem_of_getElem? hy
   have:=TH hm
   rw [JV,hy,Option.bind_some,ih y (by omega) (by omega) (h2 y hm),Option.bind_some,cond_true]
theorem VE {e:Ex} (hz:LS e≤1000000) (ho:Qu e):KK e e=some true:=Jw (LS e) fun q hq=>yL q e hq hz ho
theorem Sz (l:List Dc) (h:l.length≤9223372036854775807):ED l l=some true:=by
 rw [ED]
 simp only [HN]
 rw [Ac trivial]
 refine Oj h (fun i y hy=>?_)
 rw [GI,hy,Option.bind_some,N0,cond_true]
theorem WE (l:List Ex) (h:l.length≤9223372036854775807) (hx:∀ e∈l,LS e≤1000000∧Qu e):FV l l=some true:=by
 rw [FV]
 simp only [HN]
 rw [Ac trivial]
 refine Oj h (fun i y hy=>?_)
 obtain ⟨h1,h2⟩:=hx y (List.mem_of_getElem? hy)
 rw [Gy,hy,Option.bind_some,VE h1 h2,Option.bind_some,cond_true]
theorem X7 (l:List Int) (h:l.length≤9223372036854775807):Gn l l=some true:=by
 rw [Gn]
 simp only [HN]
 rw [Ac trivial]
 refine Oj h (fun i y hy=>?_)
 rw [Hc,hy,Option.bind_some,HN,Ac rfl]
def dU (a:Ar):Prop:=a.wh.length≤1000000∧a.un.length≤1000000∧(∀ e∈a.wh,LS e≤1000000∧Qu e)∧LS a.am≤1000000∧Qu a.am
theorem Ys {a:Ar} (h:dU a):ER a a=some true:=by
 obtain ⟨h1,h2,h3,h4,h5⟩:=h
 rw [ER]
 simp only [HN]
 rw [Ac trivial,Ac trivial,Ac trivial,Ac trivial,Ac trivial,Ac trivial,WE _ (by omega) h3,Option.bind_some,cond_true,X7 _ (by omega),Option.bind_some,cond_true,VE h4 h5,Option.bind_some]
theorem TK {c:Co} (h1:c.facts.length≤1000000) (h2:c.lines.length≤1000000) (h3:c.arts.length≤1000000) (h4:∀ a∈c.arts,dU a):Db c c=some true:=by
 rw [Db,Sz _ (by omega),Option.bind_some,cond_true,Sz _ (by omega),Option.bind_some,cond_true]
 simp only [HN]
 rw [Ac trivial]
 refine Oj (by omega) (fun i y hy=>?_)
 rw [GM,hy,Option.bind_some,Ys (h4 y (List.mem_of_getElem? hy)),Option.bind_some,cond_true]
end Mo
end Go.Proofs.YtnijkdknnmgoeaaGreat

