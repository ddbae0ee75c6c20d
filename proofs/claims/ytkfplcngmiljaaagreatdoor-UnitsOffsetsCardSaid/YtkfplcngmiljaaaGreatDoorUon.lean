/- Part of a proof: see the last text. -/
import Derived.Test.YtkfplcngmiljaaaGreatDoorUom
import Derived.SizedLaws
import Derived.Test.YtkfplcngmiljaaaGreatDoorChecked
import Derived.WalkKit
import Derived.WalkLawsBesides
import Derived.WalkSpells
import Derived.Lib.Hide
import Derived.Laws.Rows
set_option linter.unusedVariables false
set_option linter.unusedSimpArgs false
namespace Go.Proofs.YtkfplcngmiljaaaGreatDoor
open AI Go
namespace Mo
open Go.ChangeShapes Go.WideShapes Go.ChangeAt Go.RowKit
set_option maxRecDepth 100000
set_option maxHeartbeats 4000000
theorem P4 {c:Cx} {w:World} {o:Own} {k n cap:Nat} {cs:List AV} {A:Option Addr} (h:Rp c w (.sl o k cs) (.slice A n cap)):n=k:=by cases h<;>rfl
theorem X6 {c:Cx} {w:World} {o:Own} {k n cap:Nat} {cs:List AV} {a:Addr} (h:Rp c w (.sl o k cs) (.slice (some a) n cap)) (hn:n≠0):∃ g o2,a=⟨g,o2,none⟩∧AA c w g o2 cs:=by
 cases h with
 | sl0 _=>exact absurd rfl hn
 | sl1 _ hc _=>exact ⟨_,_,rfl,hc⟩
theorem Tm {H:Type} {e:TypeId} {d:DataW H}:∀ {l:List (DataW H)},d∈l→∀ q∈d.weights P e,q∈DataW.weightsAll P e l
 | a::l,hd,q,hq=>by
   rw [DataW.weightsAll]
   rcases List.mem_cons.1 hd with rfl | hd
   · exact List.mem_append.2 (.inl hq)
   · exact List.mem_append.2 (.inr (Tm hd q hq))
theorem kC {c:Cx} {w:World} {g o i:Nat} {l:List Nd} {k:Nd} {vs:List Value} (hc:AA c w g o (AW l)) (hk:l[i]?=some k) (hv:w.cells? 0 ((⟨g,o,none⟩:Addr).add (i*11)) 11=some vs):A6 c w (BP k) vs:=by
 obtain ⟨_,hl,hat⟩:=World.cells?_some hv
 refine A6.Xv hl (fun j b v hb hvj=>?_)
 have hj:j < 11:=(List.getElem?_eq_some_iff.1 hb).1
 have hb2:(AW l)[i*11+j]?=some b:=by rw [ER,Mr (f:=BP) (k:=11) (fun _=>rfl) hk hj];exact hb
 obtain ⟨v2,h1,h2⟩:=hc.get hb2
 have h3:=hat j hj
 rw [Go.Deep.add_add,add_lit,h1.2.2,hvj] at h3
 cases h3
 exact h2
section
variable {H:Type} {enc:TypeId×Value→H} {W:World}
theorem wJ:∀ (n:Nat) (cs:List Value) (x:DataW H×List MemPlace),Td enc W n 27 cs=some x→(∀ q∈x.1.weights P 27,q≤reachBytes)→∀ y:Nd,A6 (K2 W) W (BP y) cs→RF y:=by
 intro n
 induction n using Nat.strongRecOn with
 | _ n ih =>
 intro cs x h hw y hr
 obtain ⟨xs,m,hm,hx,hl,hlen,hf⟩:=DataW.trod_struct Tryz.underlying27 h
 have hW:∀ (j:Nat) (t:TypeId) (d:DataW H×List MemPlace),([3,9,9,3,3,3,3,24,25,3]:List TypeId)[j]?=some t→xs[j]?=some d→∀ q∈d.1.weights P t,q≤reachBytes:=fun j t d ht hd q hq=>by
   refine hw q ?_
   rw [hx]
   have:(DataW.agg (xs.map (·.1))).weights P 27=DataW.weightsEach P [3,9,9,3,3,3,3,24,25,3] (xs.map (·.1)):=by
     rw [DataW.weights]
     simp only [P,Tryz.underlying27]
     rfl
   rw [this]
   exact DataW.weights_mem_each ht (by rw [List.getElem?_map,hd];rfl) q hq
 rw [sY] at hl
 match cs,hl with
 | [a0,a1,a2,a3,a4,a5,a6,a7,a8,a9,a10],_ =>
   have h7:Td enc W m 24 (List.take (P.cellsOf 24) (List.drop 7 [a0,a1,a2,a3,a4,a5,a6,a7,a8,a9,a10]))=xs[7]?:=hf 7 _ rfl
   rw [uR] at h7
   have h7:Td enc W m 24 [a7,a8]=xs[7]?:=h7
   have h8:Td enc W m 25 (List.take (P.cellsOf 25) (List.drop 9 [a0,a1,a2,a3,a4,a5,a6,a7,a8,a9,a10]))=xs[8]?:=hf 8 _ rfl
   rw [xC] at h8
   have h8:Td enc W m 25 [a9]=xs[8]?:=h8
   have r8:Rp (K2 W) W (.sl .lost y.tab.ps.length (rows J4 y.tab.ps)) a8:=by
     obtain ⟨v,e,hv⟩:=hr.get (i:=8) (a:=.sl .lost y.tab.ps.length (rows J4 y.tab.ps)) rfl
     cases e;exact hv
   have r9:Rp (K2 W) W (.sl .lost y.kids.length (AW y.kids)) a9:=by
     obtain ⟨v,e,hv⟩:=hr.get (i:=9) (a:=.sl .lost y.kids.length (AW y.kids)) rfl
     cases e;exact hv
   obtain ⟨d7,e7⟩:∃ d,xs[7]?=some d:=⟨_,List.getElem?_eq_getElem (by rw [hlen];decide)⟩
   obtain ⟨d8,e8⟩:∃ d,xs[8]?=some d:=⟨_,List.getElem?_eq_getElem (by rw [hlen];decide)⟩
   rw [e7] at h7
   rw [e8] at h8
   have w7:=hW 7 24 d7 rfl e7
   have w8:=hW 8 25 d8 rfl e8
   rw [Pl]
   refine ⟨?_,fun k hk=>?_⟩
   · obtain ⟨xs2,m2,hm2,hx2,hl2,hlen2,hf2⟩:=DataW.trod_struct Tryz.underlying24 h7
     have g1:Td enc W m2 22 (List.take (P.cellsOf 22) (List.drop 1 [a7,a8]))=xs2[1]?:=hf2 1 _ rfl
     rw [wL] at g1
     have g1:Td enc W m2 22 [a8]=xs2[1]?:=g1
     obtain ⟨d1,e1⟩:∃ d,xs2[1]?=some d:=⟨_,List.getElem?_eq_getElem (by rw [hlen2];decide)⟩
     rw [e1] at g1
     have w1:∀ q∈d1.1.weights P 22,q≤reachBytes:=fun q hq=>by
       refine w7 q ?_
       rw [hx2]
       have:(DataW.agg (xs2.map (·.1))).weights P 24=DataW.weightsEach P [3,22] (xs2.map (·.1)):=by
         rw [DataW.weights]
         simp only [P,Tryz.underlying24]
         rfl
       rw [this]
       exact DataW.weights_mem_each (j:=1) (t:=22) rfl (by rw [List.getElem?_map,e1];rfl) q hq
     rcases DataW.trod_slice Tryz.underlying22 g1 with ⟨hcs,_⟩ | ⟨a,len,cap,elems,rest,k,_,hcs,hxx,_,_,_,hle,_⟩
     · obtain rfl:a8=.slice none 0 0:=by simpa using hcs
       rw [← P4 r8];decide
     · obtain rfl:a8=.slice (some a) len cap:=by simpa using hcs
       rw [← P4 r8]
       have h3:(elems.length+rest.length)*24≤reachBytes:=w1 _ (by
         rw [hxx,DataW.weights]
         simp only [P,Tryz.underlying22]
         rw [show Tryz.prog.bytesOf 80=24 by kernel_rfl]
         simp)
       have:=reachBytes_lt
       have h4:elems.length*24≤(elems.length+rest.length)*24:=Nat.mul_le_mul_right _ (Nat.le_add_right _ _)
       rw [hle] at h4
       omega
   · obtain ⟨i,hi⟩:=List.mem_iff_getElem?.1 hk
     have hil:=(List.getElem?_eq_some_iff.1 hi).1
     rcases DataW.trod_slice Tryz.underlying25 h8 with ⟨hcs,_⟩ | ⟨a,len,cap,elems,rest,k2,hk2,hcs,hxx,_,_,_,hle,hel,_⟩
     · obtain rfl:a9=.slice none 0 0:=by simpa using hcs
       have:=P4 r9
       omega
     · obtain rfl:a9=.slice (some a) len cap:=by simpa using hcs
       have hn:=P4 r9
       obtain ⟨g,o,rfl,hc⟩:=X6 r9 (by omega)
       have h5:=hel i (by omega)
       obtain ⟨d,ed⟩:∃ d,elems[i]?=some d:=⟨_,List.getElem?_eq_getElem (by omega)⟩
       rw [ed] at h5
       obtain ⟨vs,v1,v2⟩:=Option.bind_eq_some_iff.1 h5
       rw [show Tryz.prog.cellsOf 27=11 from sY] at v1
       refine ih k2 (by omega) vs d v2 (fun q hq=>w8 q ?_) k (kC hc hi v1)
       rw [hxx,DataW.weights]
       simp only [P,Tryz.underlying25]
       refine List.mem_cons_of_mem _ (List.mem_append.2 (.inl (Tm (d:=d.1) (List.mem_map_of_mem (List.mem_of_getElem? ed)) q hq)))
end
end Mo
end Go.Proofs.YtkfplcngmiljaaaGreatDoor
namespace LexS
def KU (n:Nat):Nat :=
 if n=32∨n=9∨n=10∨n=13 then 1
 else if 97≤n∧n≤122 then 2
 else if 65≤n∧n≤90 then 4
 else if 48≤n∧n≤57 then 8
 else if n=95 then 16
 else 0
def cin (m:Nat) (c:UInt8):Bool:=(KU c.toNat &&& m) != 0
def Bt (m:Nat) (t:List UInt8):Nat:=(t.takeWhile (cin m)).length
def GH (m:Nat) (t:List UInt8):Bool:=match t with
 | []=>false
 | c::_=>cin m c
def Fc (b:Bool):List UInt8→Nat
 | []=>0
 | c::t =>
   if b then (if c=10 then 1+Fc false t else 1+Fc true t)
   else if cin 1 c then 1+Fc false t
   else if c=47∧t.head?=some 47 then 1+Fc true t
   else 0
def Eg (t:List UInt8):Nat:=Fc false t
def IM (t:List UInt8) (i:Nat):Bool :=
 if i=4∨i=7 then t[i]? == some 45 else GH 8 (t.drop i)
def GD (t:List UInt8):Bool:=decide (10≤t.length)&&(List.range 10).all (IM t)
def free (t:List UInt8):Bool:=!(GH 30 t||t.head? == some 46)
def FD (t:List UInt8):Nat×Nat :=
 let d:=Bt 8 t
 if GD t then (if free (t.drop 10) then (5,10) else (0,0))
 else if t.head?=some 48∧1 < d then (0,0)
 else if (t.drop d).head?=some 46 then
   (if 10 < d∨GH 8 (t.drop (d+1))=false∨GH 8 (t.drop (d+2))=false then (0,0)
    else if free (t.drop (d+3)) then (4,d+3) else (0,0))
 else if 12 < d then (0,0)
 else if free (t.drop d) then (3,d) else (0,0)
def C0:List (List UInt8):=[[61,61],[33,61],[60,61],[62,61],[60],[62],[43],[45],[42],[47],[40],[41],[123],[125],[58],[59],[44]]
def LX (t:List UInt8):List (List UInt8)→Nat×Nat
 | []=>(0,0)
 | y::ys=>if y.isPrefixOf t then (6,y.length) else LX t ys
def BZ (t:List UInt8):Nat×Nat :=
 if GH 2 t then (if Bt 30 t≤16∧Bt 26 t=Bt 30 t then (1,Bt 30 t) else (0,0))
 else if GH 4 t then (if Bt 30 t=3∧Bt 4 t=Bt 30 t then (2,Bt 30 t) else (0,0))
 else if GH 8 t then FD t
 else LX t C0
abbrev Tok:=Nat×List UInt8×Nat
def Gk:Nat→Nat→List UInt8→List Tok
 | 0,_,_=>[]
 | n+1,o,t =>
   if t=[] then []
   else if (BZ t).1=0 then [(0,[],o)]
   else ((BZ t).1,t.take (BZ t).2,o) ::
     Gk n (o+(BZ t).2+Eg (t.drop (BZ t).2)) ((t.drop (BZ t).2).drop (Eg (t.drop (BZ t).2)))
def Cj (s:List UInt8):List Tok:=Gk s.length (Eg s) (s.drop (Eg s))
end LexS
namespace LexS
theorem JV (m:Nat) (c:UInt8) (t:List UInt8):Bt m (c::t)=if cin m c then 1+Bt m t else 0:=by
 unfold Bt
 rw [List.takeWhile_cons]
 by_cases h:cin m c=true
 · simp [h];omega
 · simp [h]
theorem Vs (m:Nat) (t:List UInt8):GH m (t.drop (Bt m t))=false:=by
 induction t with
 | nil=>rfl
 | cons c t ih =>
   rw [JV]
   by_cases h:cin m c=true
   · rw [if_pos h,Nat.add_comm,List.drop_succ_cons];exact ih
   · rw [if_neg h,List.drop_zero];simp [GH,h]
theorem Kk (m:Nat) (t:List UInt8):Bt m t≤t.length:=by
 unfold Bt;exact (List.takeWhile_prefix _).length_le
theorem Vp (t:List UInt8):Fc false t=Bt 1 t+Fc false (t.drop (Bt 1 t)):=by
 induction t with
 | nil=>rfl
 | cons c t ih =>
   rw [JV]
   by_cases h:cin 1 c=true
   · rw [if_pos h,Nat.add_comm 1,List.drop_succ_cons,Fc]
     simp only [h,Bool.false_eq_true,if_false,if_true]
     omega
   · rw [if_neg h];simp
theorem QS (t:List UInt8) (h:[47,47].isPrefixOf t=true):Fc false t=Fc true t:=by
 obtain ⟨u,rfl⟩:∃ u,t=47::47::u:=by
   obtain ⟨u,hu⟩:=List.isPrefixOf_iff_prefix.1 h
   exact ⟨u,by simpa using hu.symm⟩
 rw [Fc]
 conv=>rhs;rw [Fc]
 simp [cin,KU]
theorem WI (t:List UInt8) (h1:GH 1 t=false) (h:[47,47].isPrefixOf t=false):Fc false t=0:=by
 cases t with
 | nil=>rfl
 | cons c t =>
   rw [Fc]
   have h1':cin 1 c=false:=h1
   simp only [h1',Bool.false_eq_true,if_false]
   rw [if_neg]
   rintro ⟨rfl,h2⟩
   cases t with
   | nil=>simp at h2
   | cons d t=>simp at h2;subst h2;simp [List.isPrefixOf] at h
theorem Ya (t:List UInt8):Fc true (10::t)=Fc false (10::t):=by
 rw [Fc,Fc];simp [cin,KU]
theorem jO (c:UInt8) (t:List UInt8) (h:c≠10):Fc true (c::t)=1+Fc true t:=by
 rw [Fc];simp [h]
theorem bH (b:Bool) (t:List UInt8):Fc b t≤t.length:=by
 induction t generalizing b with
 | nil=>simp [Fc]
 | cons c t ih =>
   rw [Fc]
   have h1:=ih true
   have h2:=ih false
   repeat' split
   all_goals simp only [List.length_cons];omega
theorem TS (t:List UInt8):Eg t≤t.length:=bH _ _
theorem L0 (b a:List UInt8):b.isPrefixOf a=(a.take b.length == b):=by
 rw [Bool.eq_iff_iff,List.isPrefixOf_iff_prefix,List.prefix_iff_eq_take,beq_iff_eq]
 exact eq_comm
end LexS
namespace LexS
theorem YA (t:List UInt8) (ys:List (List UInt8)) (h:(LX t ys).1≠0) (hy:∀ y∈ys,1≤y.length):1≤(LX t ys).2∧(LX t ys).2≤t.length:=by
 induction ys with
 | nil=>simp [LX] at h
 | cons y ys ih =>
   rw [LX] at h ⊢
   by_cases hp:y.isPrefixOf t=true
   · rw [if_pos hp]
     exact ⟨hy y (by simp),(List.isPrefixOf_iff_prefix.1 hp).length_le⟩
   · rw [if_neg hp] at h ⊢
     exact ih h (fun y' h'=>hy y' (by simp [h']))
theorem Nt (m:Nat) (t:List UInt8) (h:GH m t=true):1≤Bt m t:=by
 cases t with
 | nil=>simp [GH] at h
 | cons c t=>have h':cin m c=true:=h;rw [JV,if_pos h'];omega
theorem ZF (c:UInt8) (m m':Nat) (h:cin m c=true) (hs:∀ k,k=0∨k=1∨k=2∨k=4∨k=8∨k=16→(k &&& m)≠0→(k &&& m')≠0):cin m' c=true:=by
 unfold cin at h ⊢
 rw [bne_iff_ne] at h ⊢
 refine hs _ ?_ h
 unfold KU
 repeat (split;simp)
 simp
theorem TV (t:List UInt8) (m m':Nat) (h:GH m t=true) (hs:∀ k,k=0∨k=1∨k=2∨k=4∨k=8∨k=16→(k &&& m)≠0→(k &&& m')≠0):GH m' t=true:=by
 cases t with
 | nil=>simp [GH] at h
 | cons c t=>exact ZF c m m' h hs
theorem cG (m:Nat) (t:List UInt8) (k:Nat) (h:GH m (t.drop k)=true):k < t.length:=by
 rcases Nat.lt_or_ge k t.length with hk | hk
 · exact hk
 · rw [List.drop_eq_nil_of_le hk] at h;simp [GH] at h
theorem Yt (t:List UInt8) (h8:GH 8 t=true) (h:(FD t).1≠0):1≤(FD t).2∧(FD t).2≤t.length:=by
 have hd:=Nt 8 t h8
 have hl:=Kk 8 t
 unfold FD at h ⊢
 simp only at h ⊢
 by_cases h1:GD t=true
 · rw [if_pos h1] at h ⊢
   by_cases h2:free (t.drop 10)=true
   · rw [if_pos h2]
     have:10≤t.length:=by unfold GD at h1;simp at h1;exact h1.1
     exact ⟨by simp,this⟩
   · rw [if_neg h2] at h;simp at h
 · rw [if_neg h1] at h ⊢
   by_cases h2:t.head?=some 48∧1 < Bt 8 t
   · rw [if_pos h2] at h;simp at h
   · rw [if_neg h2] at h ⊢
     by_cases h3:(t.drop (Bt 8 t)).head?=some 46
     · rw [if_pos h3] at h ⊢
       by_cases h4:10 < Bt 8 t∨GH 8 (t.drop (Bt 8 t+1))=false∨GH 8 (t.drop (Bt 8 t+2))=false
       · rw [if_pos h4] at h;simp at h
       · rw [if_neg h4] at h ⊢
         by_cases h5:free (t.drop (Bt 8 t+3))=true
         · rw [if_pos h5]
           have h6:GH 8 (t.drop (Bt 8 t+2))=true:=by
             cases hh:GH 8 (t.drop (Bt 8 t+2)) with
             | true=>rfl
             | false=>exact absurd (.inr (.inr hh)) h4
           have:=cG 8 t _ h6
           exact ⟨by simp,by simp only;omega⟩
         · rw [if_neg h5] at h;simp at h
     · rw [if_neg h3] at h ⊢
       by_cases h4:12 < Bt 8 t
       · rw [if_pos h4] at h;simp at h
       · rw [if_neg h4] at h ⊢
         by_cases h5:free (t.drop (Bt 8 t))=true
         · rw [if_pos h5];exact ⟨hd,hl⟩
         · rw [if_neg h5] at h;simp at h
theorem NB (t:List UInt8) (h:(BZ t).1≠0):1≤(BZ t).2∧(BZ t).2≤t.length:=by
 have hl:=Kk 30 t
 unfold BZ at h ⊢
 by_cases h2:GH 2 t=true
 · have hd:=Nt 30 t (TV t 2 30 h2 (by intro k hk;rcases hk with rfl | rfl | rfl | rfl | rfl | rfl<;>decide))
   rw [if_pos h2] at h ⊢
   by_cases hc:Bt 30 t≤16∧Bt 26 t=Bt 30 t
   · rw [if_pos hc];exact ⟨hd,hl⟩
   · rw [if_neg hc] at h;simp at h
 · rw [if_neg h2] at h ⊢
   by_cases h4:GH 4 t=true
   · have hd:=Nt 30 t (TV t 4 30 h4 (by intro k hk;rcases hk with rfl | rfl | rfl | rfl | rfl | rfl<;>decide))
     rw [if_pos h4] at h ⊢
     by_cases hc:Bt 30 t=3∧Bt 4 t=Bt 30 t
     · rw [if_pos hc];exact ⟨hd,hl⟩
     · rw [if_neg hc] at h;simp at h
   · rw [if_neg h4] at h ⊢
     by_cases h8:GH 8 t=true
     · rw [if_pos h8] at h ⊢;exact Yt t h8 h
     · rw [if_neg h8] at h ⊢;exact YA t C0 h (by decide)
def Ea (s:List UInt8) (k:Nat):List Tok:=Gk (s.length - k) k (s.drop k)
theorem LJ (n m o:Nat) (t:List UInt8) (hn:t.length≤n) (hm:t.length≤m):Gk n o t=Gk m o t:=by
 induction n generalizing m o t with
 | zero =>
   have:t=[]:=by cases t with | nil=>rfl | cons c t=>simp at hn
   subst this
   cases m with
   | zero=>rfl
   | succ m=>simp [Gk]
 | succ n ih =>
   cases m with
   | zero =>
     have:t=[]:=by cases t with | nil=>rfl | cons c t=>simp at hm
     subst this;simp [Gk]
   | succ m =>
     rw [Gk,Gk]
     by_cases ht:t=[]
     · rw [if_pos ht,if_pos ht]
     · rw [if_neg ht,if_neg ht]
       by_cases hz:(BZ t).1=0
       · rw [if_pos hz,if_pos hz]
       · rw [if_neg hz,if_neg hz]
         have hp:=NB t hz
         refine congrArg _ (ih m _ _ ?_ ?_)
         · simp only [List.length_drop];omega
         · simp only [List.length_drop];omega
theorem QN (s:List UInt8) (k:Nat) (h:s.length≤k):Ea s k=[]:=by
 unfold Ea
 rw [show s.length - k=0 from by omega];rfl
theorem Qt (s:List UInt8) (k:Nat) (h:k < s.length) (hz:(BZ (s.drop k)).1=0):Ea s k=[(0,[],k)]:=by
 unfold Ea
 obtain ⟨n,hn⟩:∃ n,s.length - k=n+1:=⟨s.length - k - 1,by omega⟩
 rw [hn,Gk,if_neg (by intro e;have:=congrArg List.length e;simp at this;omega),if_pos hz]
theorem QD (s:List UInt8) (k:Nat) (h:k < s.length) (hz:(BZ (s.drop k)).1≠0) :
   Ea s k=((BZ (s.drop k)).1,(s.drop k).take (BZ (s.drop k)).2,k)::Ea s (k+(BZ (s.drop k)).2+Eg (s.drop (k+(BZ (s.drop k)).2))):=by
 have hp:=NB _ hz
 rw [List.length_drop] at hp
 unfold Ea
 obtain ⟨n,hn⟩:∃ n,s.length - k=n+1:=⟨s.length - k - 1,by omega⟩
 rw [hn,Gk,if_neg (by intro e;have:=congrArg List.length e;simp at this;omega),if_neg hz]
 refine congrArg _ ?_
 rw [List.drop_drop,List.drop_drop]
 refine LJ _ _ _ _ ?_ ?_
 · rw [List.length_drop];omega
 · rw [List.length_drop];omega
theorem Vv (s:List UInt8):Cj s=Ea s (Eg s):=by
 unfold Cj Ea
 exact LJ _ _ _ _ (by rw [List.length_drop];omega) (by rw [List.length_drop];omega)
def G7:List Tok→List Tok→List Tok×Nat×Nat
 | acc,[]=>(acc,0,0)
 | acc,x::r=>if acc.length=2000 then ([],2,x.2.2) else if x.1=0 then ([],61,x.2.2) else G7 (acc++[x]) r
def QQ (s:List UInt8):List Tok×Nat×Nat:=if 6000 < s.length then ([],2,0) else G7 [] (Cj s)
def RA (l:List Tok):Prop:=l.length≤2000∧∀ x∈l,x.1≠0
theorem LF (acc q r:List Tok) (h:RA (acc++q)):G7 acc (q++r)=G7 (acc++q) r:=by
 induction q generalizing acc with
 | nil=>simp
 | cons x q ih =>
   rw [List.cons_append,G7]
   have h1:=h.1
   rw [List.length_append,List.length_cons] at h1
   rw [if_neg (by omega),if_neg (h.2 x (by simp))]
   have:=ih (acc++[x]) (by simpa using h)
   simpa using this
end LexS
namespace Go.Proofs.YtkfplcngmiljaaaGreatDoor
open Go.RowKit LexS
def Dh:Array Value:=(C0.map fun y=>Value.string ⟨y.toArray⟩).toArray
def F7 (w:World):Prop:=(∀ i,i < 128→w.cell? ⟨2,i,none⟩=some (.int .u8 (KU i)))∧(∀ (j:Nat) v,Dh.toList[j]?=some v→w.cell? ⟨0,j,none⟩=some v)
theorem F7.KU {w:World} (h:F7 w) (i:Nat) (hi:i < 128):w.cell? ⟨2,i,none⟩=some (.int .u8 (KU i)):=by
 exact h.1 i hi
theorem F7.CY {w w':World} (h:F7 w) (hk:w'.heap[(2:Nat)]?=w.heap[(2:Nat)]?∧w'.heap[(0:Nat)]?=w.heap[(0:Nat)]?):F7 w':=by
 refine ⟨fun i hi=>?_,fun j v hj=>?_⟩
 · rw [World.cell?_of_block (w:=w) hk.1];exact h.1 i hi
 · rw [World.cell?_of_block (w:=w) hk.2];exact h.2 j v hj
def TB (n:Nat):Prop:=2 < n∧0 < n
theorem TF {w:World} {g i:Nat} {v:Value} (h:w.cell? ⟨g,i,none⟩=some v):g < w.heap.size:=by
 unfold World.cell? at h
 by_cases hg:g < w.heap.size
 · exact hg
 · rw [Array.getElem?_eq_none (by simpa using hg)] at h
   cases h
theorem F7.tb {w:World} (h:F7 w):TB w.heap.size:=⟨TF (h.1 0 (by decide)),TF (h.2 0 _ rfl)⟩
theorem KA {P:Program} {ops:Array Oper} {rest:List Oper} {o:Oper} {a:Act} {w:World} {Q:Exit→Act→World→Prop} (hgd:o.guard=none) (ty:TypeId) (x:Operand) (ho:o.op=.load ty x)
   (g:Nat) (hx:a.eval x=.pointer (some ⟨g,0,none⟩)) (cs:Array Value) (d:TypeDesc) (hg:∀ (j:Nat) v,cs.toList[j]?=some v→w.cell? ⟨g,j,none⟩=some v)
   (hu:P.underlying ty=some d) (hd:(match d with | .struct _ | .array _ _=>true | _=>false)=true) (hi:(P.info? ty).map (·.size)=some cs.size)
   (h:wpList P ops Q rest (a.put o.dst (.agg cs)) w):wpList P ops Q (o::rest) a w:=by
 have hl:(loadCells ⟨g,0,none⟩ cs.toList.length).run P w=.ok cs.toList.toArray w :=
   run_loadCells_list (P:=P) w ⟨g,0,none⟩ cs.toList (fun j v hv=>by
     have hadd:(⟨g,0,none⟩:Addr).add j=⟨g,j,none⟩:=by unfold Addr.add;split<;>simp_all
     rw [hadd];exact hg j v hv)
 have hrow:(loadVar ty ⟨g,0,none⟩).run P w=.ok (.agg cs) w:=by
   cases hq:P.info? ty with
   | none=>simp [hq] at hi
   | some i =>
     have hs:i.size=cs.size:=by simpa [hq] using hi
     have hagg:(isAgg ty).run P w=.ok true w:=by
       unfold isAgg
       rw [Sem.run_bind,run_underlying hu w]
       cases d<;>simp_all
     simp only [Array.length_toList,Array.toArray_toList] at hl
     simp [loadVar,Sem.run_bind,hagg,Go.sizeOf,typeInfo,hq,hs,hl]
 refine wpList_plain hgd fun _ hK=>?_
 unfold Oper.wp execOp
 simp only [ho,hx,Instr.loadAt,Instr.sureAddr,Sem.run_bind,Sem.run_pure,Result.andThen_ok,hrow]
 exact hK _ _ h
abbrev L (s:ByteArray):List UInt8:=s.data.toList
theorem HN (s:ByteArray) (k:Nat) (h:k < s.size):(L s).drop k=s[k]::(L s).drop (k+1):=by
 rw [List.drop_eq_getElem_cons (by simpa using h)];rfl
theorem M0 (s:ByteArray) (k:Nat) (h:s.size≤k):(L s).drop k=[]:=by
 rw [List.drop_eq_nil_iff];simpa using h
def sU (m:Nat):Bool:=m == 1||m == 2||m == 4||m == 8||m == 26||m == 30
theorem Yl (n:Nat):KU n=0∨KU n=1∨KU n=2∨KU n=4∨KU n=8∨KU n=16:=by
 unfold KU;repeat (split;simp)
 simp
theorem aH (n:Nat) (h:128≤n):KU n=0:=by
 unfold KU
 rw [if_neg (by omega),if_neg (by omega),if_neg (by omega),if_neg (by omega),if_neg (by omega)]
theorem YH (n m:Nat) (hm:sU m=true):(bits BinOp.and IntKind.u8 (KU n:Int) (m:Int) != 0)=((KU n &&& m) != 0):=by
 have hm':m=1∨m=2∨m=4∨m=8∨m=26∨m=30:=by simp [sU] at hm;omega
 rcases Yl n with h | h | h | h | h | h<;>rw [h]<;>rcases hm' with rfl | rfl | rfl | rfl | rfl | rfl<;>decide
set_option maxHeartbeats 400000 in
theorem DL (s:ByteArray) (a:Int) (m:Nat) (w:World) (hT:F7 w) (h0:0≤a) (hm:sU m=true) :
   Calls Tryz.prog 124 #[.string s,.int .i64 a,.int .u8 m] w fun e w'=>e=.returned (.bool (GH m ((L s).drop a.toNat)))∧w=w':=by
 obtain ⟨k,rfl⟩:=Int.eq_ofNat_of_zero_le h0
 rw [Int.toNat_natCast]
 by_cases ha:k < s.size
 · have e1:GH m ((L s).drop k)=cin m s[k]:=by rw [HN s k ha];rfl
   have E1:=Lib.hid e1
   clear e1
   have HM:=Lib.hid hm
   clear hm
   by_cases h128:(s[k].toNat:Int) < 128
   · have hc:=hT.KU s[k].toNat (by omega)
     go_enter Tryz.func124,Tryz.ntmps124
     go_wp2
     go_ret
     refine ⟨?_,rfl⟩
     rw [E1.out]
     have:=YH s[k].toNat m HM.out
     exact congrArg (fun b=>Ending.returned (.bool b)) this
   · have e2:cin m s[k]=false:=by unfold cin;rw [aH _ (by omega)];simp
     have E2:=Lib.hid e2
     clear e2
     go_enter Tryz.func124,Tryz.ntmps124
     go_wp2
     go_ret
     exact ⟨by rw [E1.out,E2.out];rfl,rfl⟩
 · have e1:GH m ((L s).drop k)=false:=by rw [M0 s k (by omega)];rfl
   have E1:=Lib.hid e1
   clear e1
   go_enter Tryz.func124,Tryz.ntmps124
   go_wp2
   go_ret
   exact ⟨by rw [E1.out];rfl,rfl⟩
theorem QB (m:Nat) (s:ByteArray) (k:Nat) (h:GH m ((L s).drop k)=true):k+Bt m ((L s).drop k)=k+1+Bt m ((L s).drop (k+1))∧k < s.size:=by
 by_cases hk:k < s.size
 · rw [HN s k hk] at h ⊢
   have h':cin m s[k]=true:=h
   refine ⟨?_,hk⟩
   unfold Bt
   rw [List.takeWhile_cons,if_pos h']
   simp;omega
 · rw [M0 s k (by omega)] at h;simp [GH] at h
theorem WS (m:Nat) (t:List UInt8) (h:GH m t=false):Bt m t=0:=by
 cases t with
 | nil=>rfl
 | cons c t=>unfold Bt;rw [List.takeWhile_cons];have:cin m c=false:=h;simp [this]
set_option maxHeartbeats 400000 in
theorem H7 (s:ByteArray) (a:Int) (m:Nat) (w:World) (hs:s.size≤9223372036854775806) (hT:F7 w) (h0:0≤a) (hm:sU m=true) :
   Calls Tryz.prog 122 #[.string s,.int .i64 a,.int .u8 m] w fun e w'=>e=.returned (.int .i64 (a+Bt m ((L s).drop a.toNat):Int))∧w=w':=by
 obtain ⟨k0,rfl⟩:=Int.eq_ofNat_of_zero_le h0
 rw [Int.toNat_natCast]
 have HM:=Lib.hid hm
 clear hm
 go_enter Tryz.func122,Tryz.ntmps122
 go_wp2_with fail
 go_loop [1] (fun i=>∃ k:Nat,Hid (k+Bt m ((L s).drop k)=k0+Bt m ((L s).drop k0))∧i=.int .i64 k) (fun i=>s.size - (intOf i).toNat)
 case atStart=>exact ⟨k0,Lib.hid rfl,rfl⟩
 case round =>
   obtain ⟨k,HK,rfl⟩:=hrel
   cases hb:GH m ((L s).drop k) with
   | true =>
     obtain ⟨e1,hlt⟩:=QB m s k hb
     have E1:=Lib.hid e1
     clear e1
     have HB:=Lib.hid hb
     clear hb
     go_wp2_with fail
     refine (DL s _ m _ hT (by omega) HM.out).mono ?_
     rintro e w' ⟨rfl,rfl⟩
     rw [Int.toNat_natCast,HB.out]
     go_wp2_with fail
     go_round
     case rel=>exact ⟨k+1,Lib.hid (by rw [← HK.out,E1.out]),by go_num⟩
     case measure=>simp [intOf];omega
   | false =>
     have HB:=Lib.hid hb
     clear hb
     go_wp2_with fail
     refine (DL s _ m _ hT (by omega) HM.out).mono ?_
     rintro e w' ⟨rfl,rfl⟩
     rw [Int.toNat_natCast,HB.out]
     go_wp2_with fail
     go_ret
     refine ⟨?_,rfl⟩
     have h1:=HK.out
     rw [WS m _ HB.out] at h1
     exact congrArg (fun n:Int=>Ending.returned (.int .i64 n)) (by omega)
end Go.Proofs.YtkfplcngmiljaaaGreatDoor
