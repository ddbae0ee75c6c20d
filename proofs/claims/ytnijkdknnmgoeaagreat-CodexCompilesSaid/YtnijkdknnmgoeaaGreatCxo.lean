/- Part of a proof: see the last text. -/
import Derived.Test.YtnijkdknnmgoeaaGreatCxn
set_option linter.unusedVariables false
set_option linter.unusedSimpArgs false
namespace Go.Proofs.YtnijkdknnmgoeaaGreat
open AI Go
namespace Mo
set_option maxRecDepth 100000
set_option maxHeartbeats 4000000
theorem aH (c:Int):G1 c=some (mb (97≤c∧c≤122)):=by
 rw [G1];simp only [Fw,BH,Hf,F1]
theorem pB (c:Int):Ip c=some (mb (48≤c∧c≤57)):=by
 rw [Ip];simp only [Fw,BH,Hf,F1]
theorem pP (c:Int):F8 c=some (mb (65≤c∧c≤90)):=by
 rw [F8];simp only [Fw,BH,Hf,F1]
theorem Lf (n a b:Int):Bj n a b=some (mb (a≤n∧n≤b)):=by
 rw [Bj];simp only [Fw,BH,Hf,F1]
theorem yA (l:List ByteArray) (s:ByteArray) (hl:l.length≤9223372036854775807):Hp l s=some (mb (s∈l)):=by
 unfold Hp
 rw [ID (v:=true) (P:=fun _ y=>¬ y=s) hl (fun i y _=>by
   unfold LA
   simp only [B8,BH,T9])]
 simp only [lW]
 refine Lh ?_
 constructor
 · intro h
   exact Classical.byContradiction fun hn=>h fun i y hy e=>hn (e▸List.mem_of_getElem? hy)
 · intro h hn
   obtain ⟨i,hi⟩:=List.getElem?_of_mem h
   exact hn i s hi rfl
theorem uB (s:ByteArray):Hr s=some (mb (Ns s)):=by
 rw [Hr,BV,BH]
 unfold Ns
 by_cases h:s.data.toList.length=3
 · rw [Ac (by omega)]
   generalize s.data.toList=l at h
   match l,h with
   | [a,b,c],_ =>
     simp only [List.getElem?_cons_zero,List.getElem?_cons_succ,Option.bind_some,pP,BH,F1]
     refine Lh ?_
     simp only [List.length_cons,List.length_nil,List.mem_cons,List.not_mem_nil,or_false,true_and,forall_eq_or_imp,forall_eq]
     omega
 · rw [Ab (by omega)]
   exact Hq fun q=>h q.1
theorem gQ (s:ByteArray):HV s=some (mb (FK s)):=by
 rw [HV]
 simp only [Di,BH]
 unfold FK
 by_cases h0:((s.data.toList.length:Nat):Int) < 1
 · rw [Ac h0];exact Hq fun h=>by omega
 rw [Ab h0]
 by_cases h1:16 < ((s.data.toList.length:Nat):Int)
 · rw [Ac h1];exact Hq fun h=>by omega
 rw [Ab h1]
 obtain ⟨b,hb⟩:∃ b,s.data.toList[0]?=some b:=⟨_,List.getElem?_eq_getElem (by omega)⟩
 rw [hb,show KG=some Q9 from rfl]
 simp only [Option.bind_some,aH,BH]
 rw [yA _ _ (by decide),ID (v:=false) (P:=fun _ y=>Nf y) (by omega) (fun i y _=>by
   simp only [JM,aH,pB,Option.bind_some,BH,BV,TN,wI]
   congr 2
   unfold Nf
   apply propext
   omega)]
 simp only [Option.bind_some,BH,Hf,bP,F1,Lg]
 refine Lh ?_
 constructor
 · rintro ⟨h3,h5,h6⟩
   exact ⟨by omega,⟨b,rfl,by omega⟩,h5,h6⟩
 · rintro ⟨h3,⟨c,hc,h4⟩,h5,h6⟩
   cases hc
   exact ⟨by omega,h5,h6⟩
def zD (n:Nd):Prop:=n.fr=0∧n.to=0∧n.known=0
def zT (n:Nd):Prop:=n.tab.den=0∧n.tab.ps=[]
theorem Wd {α:Type} (l:List α):(((l.length:Nat):Int)=0)=(l=[]):=propext ⟨fun h=>List.eq_nil_of_length_eq_zero (by omega),fun h=>by rw [h];rfl⟩
section
variable (n:Nd)
theorem Vp:Ee n=some (mb (n.name=eS∧n.unit=eS∧n.n=0∧zD n∧zT n)):=by
 rw [Ee];simp only [BV,B8,BH,Hf,F1,Wd,zD,zT];exact Lh (by simp only [and_assoc])
theorem gN:FQ n=some (mb (n.name=eS∧zD n∧zT n∧n.kids=[])):=by
 rw [FQ];simp only [BV,B8,BH,Hf,F1,Wd,zD,zT];exact Lh (by simp only [and_assoc])
theorem vF:FR n=some (mb (n.unit=eS∧n.n=0∧zD n∧zT n∧n.kids=[])):=by
 rw [FR];simp only [BV,B8,BH,Hf,F1,Wd,zD,zT];exact Lh (by simp only [and_assoc])
theorem aaU:GN n=some (mb (n.name=eS∧n.unit=eS∧zD n∧zT n∧n.kids=[])):=by
 rw [GN];simp only [BV,B8,BH,Hf,F1,Wd,zD,zT];exact Lh (by simp only [and_assoc])
theorem mQ:Fi n=some (mb (n.unit=eS∧n.n=0∧zD n∧zT n)):=by
 rw [Fi];simp only [BV,B8,BH,Hf,F1,Wd,zD,zT];exact Lh (by simp only [and_assoc])
theorem n9:Gk n=some (mb (n.name=eS∧n.unit=eS∧n.n=0∧zD n)):=by
 rw [Gk];simp only [BV,B8,BH,Hf,F1,zD]
theorem aaw:DZ n=some (mb (n.n=0∧zD n∧zT n∧n.kids=[])):=by
 rw [DZ];simp only [BV,B8,BH,Hf,F1,Wd,zD,zT];exact Lh (by simp only [and_assoc])
theorem u4:DY n=some (mb (zD n∧zT n∧n.kids=[])):=by
 rw [DY];simp only [BV,B8,BH,Hf,F1,Wd,zD,zT];exact Lh (by simp only [and_assoc])
theorem pY:Dr n=some (mb (n.unit=eS∧zD n∧zT n)):=by
 rw [Dr];simp only [BV,B8,BH,Hf,F1,Wd,zD,zT];exact Lh (by simp only [and_assoc])
theorem qP:Gs n=some (mb (n.name=eS∧n.unit=eS∧zT n∧n.kids=[])):=by
 rw [Gs];simp only [BV,B8,BH,Hf,F1,Wd,zT];exact Lh (by simp only [and_assoc])
end
theorem Yd {α:Type} {l:List α}:l.length=0↔l=[]:=List.length_eq_zero_iff
theorem RU {a d m:Int} (hd:0 < d) (h:a.tmod d=0):(-m≤a.tdiv d∧a.tdiv d≤m)↔(-(m*d)≤a∧a≤m*d):=by
 have e:d*a.tdiv d=a:=Int.mul_tdiv_cancel' (Int.dvd_of_tmod_eq_zero h)
 generalize a.tdiv d=q at *
 subst e
 constructor
 · rintro ⟨h1,h2⟩
   have a1:=Int.mul_le_mul_of_nonneg_left h1 (Int.le_of_lt hd)
   have a2:=Int.mul_le_mul_of_nonneg_left h2 (Int.le_of_lt hd)
   rw [Int.mul_neg,Int.mul_comm d m] at a1
   rw [Int.mul_comm d m] at a2
   exact ⟨a1,a2⟩
 · rintro ⟨h1,h2⟩
   rw [Int.mul_comm m d] at h1 h2
   refine ⟨Int.le_of_mul_le_mul_left ?_ hd,Int.le_of_mul_le_mul_left h2 hd⟩
   rw [Int.mul_neg];exact h1
theorem p7 (f:Fn) (hf:mN f):Il f=some (mb (Uc f)):=by
 obtain ⟨hl,hpc⟩:=hf
 rw [Il,Lf,Lf]
 simp only [Option.bind_some,BH]
 by_cases hr:1≤f.den∧f.den≤1000000
 rotate_left
 · rw [Ab hr];exact Hq fun q=>hr q.1
 rw [Ac hr]
 by_cases hn:1≤((f.ps.length:Nat):Int)∧((f.ps.length:Nat):Int)≤64
 rotate_left
 · rw [Ab hn];exact Hq fun q=>hn ⟨by have:=q.2.1;omega,by have:=q.2.1;omega⟩
 rw [Ac hn,ID (v:=false) (P:=fun i y=>Qh f i y∧(i=0→y.fr=0)) hl (fun i y hy=>by
   have hi:i < f.ps.length:=(List.getElem?_eq_some_iff.1 hy).1
   obtain ⟨_,hat,_⟩:=hpc y (List.mem_of_getElem? hy)
   have hden:f.den≠0:=by omega
   have hd0:0 < f.den:=by omega
   have hm:T4 y.att f.den=some (y.att.tmod f.den):=by unfold T4 zM;rw [if_neg hden]
   have hq:iU y.att f.den=some (y.att.tdiv f.den):=by
     unfold iU xK
     rw [if_neg hden]
     have h1:(y.att.tdiv f.den).natAbs≤y.att.natAbs:=Int.natAbs_tdiv_le_natAbs _ _
     have h3:-9223372036854775808≤y.att.tdiv f.den∧y.att.tdiv f.den≤9223372036854775807:=by
       by_cases hneg:f.den=1
       · rw [hneg,Int.tdiv_one];exact hat
       · have h2:y.att.natAbs≤9223372036854775808:=by omega
         have h4:(y.att.tdiv f.den).natAbs < 9223372036854775808:=by
           rw [Int.natAbs_tdiv]
           have h5:2≤f.den.natAbs:=by omega
           have:y.att.natAbs / f.den.natAbs≤y.att.natAbs / 2:=Nat.div_le_div_left h5 (by decide)
           have h6:y.att.natAbs / 2≤9223372036854775808 / 2:=Nat.div_le_div_right h2
           exact Nat.lt_of_le_of_lt (Nat.le_trans this h6) (by decide)
         omega
     congr 1
     have h7:=PE h3
     rw [P0] at h7
     exact h7
   have hwm1:Ub 999999999999 f.den=999999999999*f.den:=RY (by omega)
   have hwm2:Ub (-999999999999) f.den=-(999999999999*f.den):=by rw [RY (by omega)];omega
   simp only [IQ,hm,hq,Lf,Option.bind_some,BV,Di,Fw,BH]
   unfold Qh
   rw [hm,hwm1,hwm2]
   by_cases h0:i=0
   · subst h0
     rw [Ac (show (((0:Nat):Int)=0) from rfl)]
     simp only [TN,T3,Xs]
     congr 2
     apply propext
     simp only [Option.some.injEq,Nat.lt_irrefl,false_implies,implies_true,true_and]
     constructor
     · rintro ⟨a,b,c,d,e⟩
       have:=(RU (m:=999999999999) hd0 a).1 b
       exact ⟨⟨by omega,a,this.2,this.1,c.2,c.1⟩,fun _=>e⟩
     · rintro ⟨⟨a,b,c,d,e,g⟩,h⟩
       exact ⟨b,(RU hd0 b).2 ⟨d,c⟩,⟨g,e⟩,by omega,h trivial⟩
   · rw [Ab (show ¬ (((i:Nat):Int)=0) by omega),Ac (show (0:Int) < ((i:Nat):Int) by omega),MB (by omega)]
     obtain ⟨pv,hpq⟩:∃ pv,f.ps[i - 1]?=some pv:=⟨_,List.getElem?_eq_getElem (by omega)⟩
     have hg:CP f.ps (((i:Nat):Int) - 1)=some pv:=by
       unfold CP
       rw [show (((i:Nat):Int) - 1).toNat=i - 1 by omega,if_pos (by omega)]
       exact hpq
     rw [hg,hpq]
     simp only [Option.bind_some,T9,T3,Xs]
     congr 2
     apply propext
     simp only [Option.some.injEq,forall_eq']
     constructor
     · rintro ⟨a,b,c,d,e⟩
       have:=(RU (m:=999999999999) hd0 a).1 b
       exact ⟨⟨by omega,fun q _ e=>by subst e;omega,a,this.2,this.1,c.2,c.1⟩,fun q=>absurd q h0⟩
     · rintro ⟨⟨a,p,b,c,d,e,g⟩,h⟩
       exact ⟨b,(RU hd0 b).2 ⟨d,c⟩,⟨g,e⟩,by omega,by have:=p pv (by omega) rfl;omega⟩),Hf]
 refine Lh ?_
 unfold Uc G3
 constructor
 · intro h
   exact ⟨hr,by omega,fun x hx=>(h 0 x hx).2 rfl,fun i p hp=>(h i p hp).1⟩
 · rintro ⟨_,_,h3,h4⟩ i p hp
   exact ⟨h4 i p hp,fun e=>h3 p (by rw [← e];exact hp)⟩
theorem iH (n:Nd):Gi n=some (mb (n.kind=11∧(n.name=eS∧zD n∧zT n∧n.kids=[])∧n.unit=AF∧G3 n.n)):=by
 rw [Gi,gN,Lf]
 simp only [Option.bind_some,BV,B8,BH,F1]
 rfl
end Mo
end Go.Proofs.YtnijkdknnmgoeaaGreat
namespace Go.Proofs.YtnijkdknnmgoeaaGreat
open AI Go
namespace Mo
set_option maxRecDepth 100000
set_option maxHeartbeats 4000000
theorem Zr (l m:List Nd):GR (l++m)=GR l+GR m:=by
 induction l with
 | nil=>simp [GR]
 | cons a l ih=>simp only [List.cons_append,GR,ih];omega
theorem eT {l:List Nd} {i:Nat} {y:Nd} (h:l[i]?=some y):GR (l.take (i+1))=GR (l.take i)+DG y:=by
 rw [List.take_add_one,h,Zr];simp [GR]
theorem fB (l:List Nd) (i:Nat):GR (l.take i)≤GR l:=by
 have:=Zr (l.take i) (l.drop i)
 rw [List.take_append_drop] at this
 omega
theorem abQ:∀ (n:Nat) (e:Nd) (l:Int),FM e→DG e≤n→l≤1000000→E7 n e l=some (max 0 (min ((DG e:Nat):Int) l)):=by
 intro n
 induction n with
 | zero=>intro e l _ h;have:=B6 e;omega
 | succ n ih =>
   intro e l hok hn hl
   obtain ⟨_,hk,hks⟩:=H7 hok
   have hp:=B6 e
   rw [E7,JK,K2]
   simp only [Fw,BH,GF,Bm]
   refine ⟨fun h=>by omega,fun h=>?_⟩
   refine FA (fun i x=>x=min (((1+GR (e.kids.take i):Nat)):Int) l) hk (by simp [GR];omega) (fun i y x hy hx=>?_) (fun x hx=>?_)
   · have hm:=List.mem_of_getElem? hy
     have h1:=eT hy
     have h2:=fB e.kids (i+1)
     have h3:=JQ hm
     simp only [Js,Di,BH,GF,MD,Bm,F0,abP]
     refine ⟨fun h4=>?_,fun h4=>by omega⟩
     rw [MB (by omega),ih y (l - x) (hks y hm) (by omega) (by omega),Bm,Ce (by omega)]
     omega
   · rw [List.take_length] at hx
     rw [Bm];omega
theorem tJ (e:Nd) (l:Int) (h:FM e) (hl:0≤l∧l < 1000000):IH e l=some (mb (((DG e:Nat):Int)≤l)):=by
 have hc:L1 e (l+1)=some (max 0 (min ((DG e:Nat):Int) (l+1))):=Jw (DG e) fun n hn=>abQ n e (l+1) h hn (by omega)
 rw [IH,Ce (by omega),hc,K2]
 simp only [Fw,BH,GF,Bm,MD,Pf,Cj]
 omega
theorem iI:∀ (n:Nat) (e:Nd) (l:Int),FM e→DG e≤n→-1000000≤l→l≤1000000→FT n e l=some (mb (((L3 e:Nat):Int)≤l)):=by
 intro n
 induction n with
 | zero=>intro e l _ h;have:=B6 e;omega
 | succ n ih =>
   intro e l hok hn hl0 hl
   obtain ⟨_,hk,hks⟩:=H7 hok
   have hp:=LM e
   rw [FT,KA,Di,BH]
   by_cases h:l < 1
   · rw [Ac h];refine Hq ?_;omega
   rw [Ab h,ID (v:=false) (P:=fun _ y=>((L3 y:Nat):Int)≤l - 1) hk (fun i y hy=>by
     have hm:=List.mem_of_getElem? hy
     have h3:=JQ hm
     simp only [JS]
     rw [MB (by omega),ih y (l - 1) (hks y hm) (by omega) (by omega) (by omega)]
     simp only [Option.bind_some,BH,TN]),Hf,Lg]
   refine Lh ?_
   have h4:(∀ k∈e.kids,((L3 k:Nat):Int)≤l - 1)↔ZU e.kids≤(l - 1).toNat:=by
     rw [SM]
     exact ⟨fun h k hk=>by have:=h k hk;omega,fun h k hk=>by have:=h k hk;omega⟩
   rw [h4]
   omega
theorem aap (e:Nd) (h:FM e):IV e=some (mb (DG e≤2000∧L3 e≤40)):=by
 have hf:Jh e 40=some (mb (((L3 e:Nat):Int)≤40)):=Jw (DG e) fun n hn=>iI n e 40 h hn (by omega) (by omega)
 rw [IV,tJ e 2000 h (by omega),hf]
 simp only [Option.bind_some,BH,F1]
 refine Lh ?_
 omega
theorem aQ {n:Nd} {nm un:ByteArray} {k f t w:Int} {tb:Fn}:DQ n ⟨0,nm,un,k,f,t,w,tb,[],0⟩↔n.name=nm∧n.unit=un∧n.n=k∧n.fr=f∧n.to=t∧n.known=w∧n.tab.den=tb.den∧n.tab.ps=tb.ps:=Iff.rfl
theorem Ve {k:Nd}:Lv k∧MA k↔(k.kind=11∧(k.name=eS∧zD k∧zT k∧k.kids=[])∧k.unit=AF∧G3 k.n):=by
 rw [JL]
 unfold MA zD zT G3
 constructor
 · rintro ⟨⟨h1,_⟩,h2,h3,h4⟩
   obtain ⟨_,_,_,_,hl,hb⟩:=(iJ h2).1 h1
   obtain ⟨b1,_,_,b4,b5,b6,b7,b8⟩:=aQ.1 hb
   exact ⟨h2,⟨b1,⟨b4,b5,b6⟩,⟨b7,b8⟩,Yd.1 hl⟩,h3,h4⟩
 · rintro ⟨h2,⟨b1,⟨b4,b5,b6⟩,⟨b7,b8⟩,hl⟩,h3,h4⟩
   refine ⟨⟨(iJ h2).2 ⟨.inr (.inl h3),by omega,by omega,fun e=>?_,by rw [hl];rfl,aQ.2 ⟨b1,rfl,rfl,b4,b5,b6,b7,b8⟩⟩,fun k hk=>by rw [hl] at hk;cases hk⟩,h2,h3,h4⟩
   rw [h3] at e
   exact absurd (congrArg ByteArray.data e) (by decide)
theorem nY:∀ (q:Nat) (n:Nd),FM n→2*DG n≤q→Dk q n=some (mb (Lv n)):=by
 intro q
 induction q using Nat.strongRecOn with
 | _ q ih =>
 intro n hok hq
 have hsz:=B6 n
 obtain ⟨q,rfl⟩:∃ k,q=k+1:=⟨q - 1,by omega⟩
 obtain ⟨hps,hkl,hks⟩:=H7 hok
 have hfn:=((Qa n).1 hok).1
 have hE:∀ k∈n.kids,∀ q',q≤q'+1→q' < q+1→Dk q' k=some (mb (Lv k)):=fun k hk q' h4 h5=>ih q' h5 k (hks k hk) (by have:=EY hk;omega)
 have hL:0 < n.kids.length→Ej q n.kids=some (mb (∀ k∈n.kids,Lv k)):=by
   intro h
   obtain ⟨q,rfl⟩:∃ k,q=k+1:=⟨q - 1,by have:=FG n.kids;omega⟩
   rw [Ej,JT,ID (v:=false) (P:=fun _ y=>Lv y) hkl (fun i y hy=>by
     simp only [IU]
     rw [hE y (List.mem_of_getElem? hy) q (by omega) (by omega)]
     simp only [Option.bind_some,BH,TN]),Hf,Lg]
 rw [Dk,KU]
 simp only [BV,B8,Fw,BH,gN,vF,aaU,Vp,mQ,n9,Lf,uB,gQ,iH,p7 _ hfn,Option.bind_some]
 rw [JL]
 have nokids:n.kids=[]→(∀ k∈n.kids,Lv k):=fun h k hk=>by rw [h] at hk;cases hk
 by_cases lE:n.kind=11
 · rw [Ac lE,iJ lE,aQ,Yd]
   simp only [Hf,F1,Za,L2,zD,zT,EB]
   have tt:AB (Ns n.unit) (some true) (some true)=some (mb True):=by rw [L2,tL]
   have hb:∀ {A:Prop},AB A (some (mb True)) (some false)=some (mb A):=by intro A;rw [F1];exact Lh (by simp)
   first
     | (simp only [tt,tL,F1,kB])
     | skip
   refine Lh ⟨?_,?_⟩
   · rintro ⟨⟨b1,⟨b2,b3,b4⟩,⟨b5,b6⟩,b7⟩,h1,h2⟩
     refine ⟨?_,nokids b7⟩
     by_cases ht:n.unit=Ak
     · have:=h1 ht
       exact ⟨.inl ht,by omega,by omega,fun _=>by omega,b7,b1,trivial,trivial,b2,b3,b4,b5,b6⟩
     · obtain ⟨h3,h4⟩:=h2 ht
       refine ⟨?_,by omega,by omega,fun h=>absurd h ht,b7,b1,trivial,trivial,b2,b3,b4,b5,b6⟩
       rcases h4 with h | h | h
       · exact .inr (.inr (.inr h))
       · exact .inr (.inl h)
       · exact .inr (.inr (.inl h))
   · rintro ⟨⟨h0,h1,h2,h3,b7,b1,_,_,b2,b3,b4,b5,b6⟩,_⟩
     refine ⟨⟨b1,⟨b2,b3,b4⟩,⟨b5,b6⟩,b7⟩,fun ht=>⟨⟨h1,h3 ht⟩,h1,h2⟩,fun ht=>⟨⟨h1,h2⟩,?_⟩⟩
     rcases h0 with h | h | h | h
     · exact absurd h ht
     · exact .inr (.inl h)
     · exact .inr (.inr h)
     · exact .inl h
 rw [Ab lE]
 by_cases lD:n.kind=12
 · rw [Ac lD,acf lD,aQ,Yd]
   simp only [F1,zD,zT]
   refine Lh ?_
   constructor
   · rintro ⟨⟨b1,b2,⟨b3,b4,b5⟩,⟨b6,b7⟩,b8⟩,h⟩
     exact ⟨⟨h,b8,trivial,b1,b2,b3,b4,b5,b6,b7⟩,nokids b8⟩
   · rintro ⟨⟨h,b8,_,b1,b2,b3,b4,b5,b6,b7⟩,_⟩
     exact ⟨⟨b1,b2,⟨b3,b4,b5⟩,⟨b6,b7⟩,b8⟩,h⟩
 rw [Ab lD]
 by_cases lJ:n.kind=13
 · rw [Ac lJ,ac2 lJ,aQ,Yd]
   simp only [F1,zD,zT]
   refine Lh ?_
   constructor
   · rintro ⟨⟨b1,b2,⟨b3,b4,b5⟩,⟨b6,b7⟩,b8⟩,h⟩
     exact ⟨⟨h,b8,b1,b2,trivial,b3,b4,b5,b6,b7⟩,nokids b8⟩
   · rintro ⟨⟨h,b8,b1,b2,_,b3,b4,b5,b6,b7⟩,_⟩
     exact ⟨⟨b1,b2,⟨b3,b4,b5⟩,⟨b6,b7⟩,b8⟩,h⟩
 rw [Ab lJ]
 by_cases rQ:n.kind=14
 · rw [Ac rQ,abw rQ,aQ,Yd,yA _ _ (by decide)]
   simp only [Option.bind_some,F1,zD,zT]
   refine Lh ?_
   have hd:n.name∈[EV,Oo,H8,Ks]↔SI n.name:=by
     unfold SI
     simp only [List.mem_cons,List.not_mem_nil,or_false]
   rw [hd]
   constructor
   · rintro ⟨⟨b1,b2,⟨b3,b4,b5⟩,⟨b6,b7⟩,b8⟩,h⟩
     exact ⟨⟨h,b8,trivial,b1,b2,b3,b4,b5,b6,b7⟩,nokids b8⟩
   · rintro ⟨⟨h,b8,_,b1,b2,b3,b4,b5,b6,b7⟩,_⟩
     exact ⟨⟨b1,b2,⟨b3,b4,b5⟩,⟨b6,b7⟩,b8⟩,h⟩
 rw [Ab rQ]
 have hone:∀ {β:Type} (f:Bool→Option β),n.kids.length=1→((n.kids[0]?).bind fun x=>(Dk q x).bind f)=f (mb (∀ k∈n.kids,Lv k)):=by
   intro β f hl
   have hE0:=fun k hk=>hE k hk q (by omega) (by omega)
   generalize n.kids=ks at *
   match ks,hl with
   | [x],_ =>
   simp only [List.getElem?_cons_zero,Option.bind_some]
   rw [hE0 x (by simp)]
   simp only [Option.bind_some]
   congr 1
   exact Dh (by simp)
 by_cases gH:n.kind=15
 · rw [Ac gH,qD gH,aQ]
   by_cases hl:n.kids.length=1
   · rw [Ac (show ((n.kids.length:Nat):Int)=1 by omega),hone _ hl]
     simp only [F1,zD,zT]
     refine Lh ?_
     constructor
     · rintro ⟨⟨b1,b2,b0,⟨b3,b4,b5⟩,⟨b6,b7⟩⟩,h⟩
       exact ⟨⟨hl,b1,b2,b0,b3,b4,b5,b6,b7⟩,h⟩
     · rintro ⟨⟨_,b1,b2,b0,b3,b4,b5,b6,b7⟩,h⟩
       exact ⟨⟨b1,b2,b0,⟨b3,b4,b5⟩,⟨b6,b7⟩⟩,h⟩
   · rw [Ab (show ¬ ((n.kids.length:Nat):Int)=1 by omega),L2]
     exact Hq fun a=>hl a.1.1
 rw [Ab gH]
 by_cases dO:n.kind=16
 · rw [Ac dO,rP dO,aQ,yA _ _ (by decide)]
   have hop:n.name∈[Um,IP,I2,Iw,PK,Ix,K5,Pe,PY,Kf,U0]↔SW n.name:=by
     unfold SW
     simp only [List.mem_cons,List.not_mem_nil,or_false]
     constructor
     · rintro (h | h | h | h | h | h | h | h | h | h | h)<;>simp [h]
     · rintro (h | h | h | h | h | h | h | h | h | h | h)<;>simp [h]
   by_cases hl:n.kids.length=2
   rotate_left
   · rw [Ab (show ¬ ((n.kids.length:Nat):Int)=2 by omega),L2]
     exact Hq fun a=>hl a.1.2.1
   rw [Ac (show ((n.kids.length:Nat):Int)=2 by omega),hL (by omega)]
   have hk1:n.kids[1]?=some n.kids[1]:=List.getElem?_eq_getElem (by omega)
   have hmem:n.kids[1]∈n.kids:=List.getElem_mem _
   rw [hk1]
   simp only [Option.bind_some,iH,BH,F1,kB,hop,zD,zT]
   refine Lh ?_
   have hnum:=@Ve n.kids[1]
   unfold zD zT at hnum
   generalize n.kids[1]=x at *
   simp only [Option.some.injEq,forall_eq']
   constructor
   · rintro ⟨⟨b2,b0,⟨b3,b4,b5⟩,⟨b6,b7⟩⟩,h1,h2⟩
     by_cases hs:n.name=Kf
     · obtain ⟨c1,c2,c3⟩:=h1 hs
       exact ⟨⟨⟨trivial,b2,b0,b3,b4,b5,b6,b7⟩,hl,c2,fun _=>(hnum.2 c1).2⟩,c3⟩
     · obtain ⟨c2,c3⟩:=h2 hs
       exact ⟨⟨⟨trivial,b2,b0,b3,b4,b5,b6,b7⟩,hl,c2,fun h=>absurd h hs⟩,c3⟩
   · rintro ⟨⟨⟨_,b2,b0,b3,b4,b5,b6,b7⟩,_,c2,c1⟩,c3⟩
     exact ⟨⟨b2,b0,⟨b3,b4,b5⟩,⟨b6,b7⟩⟩,fun hs=>⟨hnum.1 ⟨c3 x hmem,c1 hs⟩,c2,c3⟩,fun _=>⟨c2,c3⟩⟩
 rw [Ab dO]
 by_cases lO:n.kind=17
 · rw [Ac lO,lX lO,aQ]
   by_cases hl:2≤n.kids.length
   rotate_left
   · rw [Ab (show ¬ 2≤((n.kids.length:Nat):Int) by omega),L2]
     exact Hq fun a=>hl a.1.2.2
   rw [Ac (show 2≤((n.kids.length:Nat):Int) by omega),hL (by omega)]
   simp only [Option.bind_some,F1,kB,zD,zT]
   refine Lh ?_
   constructor
   · rintro ⟨⟨b2,b0,⟨b3,b4,b5⟩,⟨b6,b7⟩⟩,h1,h2⟩
     by_cases hs:n.name=Jt
     · exact ⟨⟨.inl hs,⟨trivial,b2,b0,b3,b4,b5,b6,b7⟩,hl⟩,h1 hs⟩
     · exact ⟨⟨.inr (h2 hs).1,⟨trivial,b2,b0,b3,b4,b5,b6,b7⟩,hl⟩,(h2 hs).2⟩
   · rintro ⟨⟨c1,⟨_,b2,b0,b3,b4,b5,b6,b7⟩,_⟩,c3⟩
     exact ⟨⟨b2,b0,⟨b3,b4,b5⟩,⟨b6,b7⟩⟩,fun _=>c3,fun hs=>⟨c1.resolve_left hs,c3⟩⟩
 rw [Ab lO]
 by_cases lP:n.kind=18
 · rw [Ac lP,oI lP,aQ]
   by_cases hl:n.kids.length=1
   · rw [Ac (show ((n.kids.length:Nat):Int)=1 by omega),hone _ hl]
     simp only [BH,F1,zD]
     refine Lh ?_
     constructor
     · rintro ⟨⟨b1,b2,b0,⟨b3,b4,b5⟩⟩,h,h2⟩
       exact ⟨⟨⟨b1,b2,b0,b3,b4,b5,trivial,trivial⟩,h2,hl⟩,h⟩
     · rintro ⟨⟨⟨b1,b2,b0,b3,b4,b5,_,_⟩,h2,_⟩,h⟩
       exact ⟨⟨b1,b2,b0,⟨b3,b4,b5⟩⟩,h,h2⟩
   · rw [Ab (show ¬ ((n.kids.length:Nat):Int)=1 by omega),L2]
     exact Hq fun a=>hl a.1.2.2
 rw [Ab lP]
 exact Hq fun a=>by have:=R5 a.1;omega
theorem hN {n:Nd} (hok:FM n):HX n=some (mb (Lv n)):=Jw (2*DG n) fun q hq=>nY q n hok hq
theorem xI {n:Nd}:E4 n=some (mb (IG n)):=by
 rw [E4,qP]
 simp only [Lf,Option.bind_some,BV,BH]
 unfold IG
 rw [aQ,Yd]
 unfold zT cG
 by_cases hf:0≤n.fr∧n.fr≤36524
 · rw [Ce (by omega)]
   simp only [F1]
   refine Lh ⟨?_,?_⟩
   · rintro ⟨k5,⟨b1,b2,⟨b3,b4⟩,b5⟩,⟨h1,h2⟩,h3,⟨h4,h5⟩,h6⟩
     exact ⟨k5,⟨h1,h2⟩,b5,h3,⟨by omega,h5⟩,h6,b1,b2,trivial,trivial,trivial,trivial,b3,b4⟩
   · rintro ⟨k5,h1,b5,h3,⟨h4,h5⟩,h6,b1,b2,_,_,_,_,b3,b4⟩
     exact ⟨k5,⟨b1,b2,⟨b3,b4⟩,b5⟩,h1,h3,⟨by omega,h5⟩,h6⟩
 · rw [Ab hf]
   simp only [L2]
   exact Hq fun a=>hf a.2.2.2.1
theorem cH (l:List Nd) (hl:l.length≤9223372036854775807):GP l=some (mb (0 < l.length∧∀ k∈l,Lv k∧MA k)):=by
 rw [GP,ID (v:=false) (P:=fun _ k=>Lv k∧MA k) hl (fun i k _=>by
   simp only [HL,iH,Option.bind_some,BH,TN,Ve]),Di,BH]
 simp only [Hf,F1,Lg]
 exact Lh ⟨fun a=>⟨by omega,a.1⟩,fun a=>⟨a.2,by omega⟩⟩
theorem Yy (n:Nd):DQ n z0↔n.name=eS∧n.unit=eS∧n.n=0∧zD n∧zT n:=by
 unfold zD zT
 rw [aQ]
 simp only [and_assoc]
theorem ND:∀ {l:List Nd} {i:Nat} {a b:Nat},(∀ x∈l,FM x)→a+l.length≤9223372036854775807→b+l.length≤9223372036854775807 →
   AL (fun i y x=>C5 i y x.1 x.2) (fun x=>(x.1,x.2)) l i (((a:Nat):Int),((b:Nat):Int))=(some (AB (kinds l∧∀ k∈l,B0 k) (.inl (((a+Bi 7 l:Nat):Int),((b+Bi 8 l:Nat):Int))) (.inr false)):Option ((Int×Int)⊕Bool))
 | [],i,a,b,_,_,_=>by rw [Ac (show kinds []∧_ from ⟨fun k hk=>(by cases hk),fun k hk=>(by cases hk)⟩)];rfl
 | x::l,i,a,b,hok,ha,hb=>by
   simp only [List.length_cons] at ha hb
   have hx:=hok x (by simp)
   obtain ⟨hps,hkl,hks⟩:=H7 hx
   rw [AL,C5,Vp]
   simp only [Option.bind_some,BV,BH,cH _ hkl]
   have hsplit:(kinds (x::l)∧∀ k∈x::l,B0 k)↔((6≤x.kind∧x.kind≤8)∧B0 x)∧kinds l∧∀ k∈l,B0 k:=by
     unfold kinds
     simp only [List.mem_cons,forall_eq_or_imp]
     exact ⟨fun ⟨⟨p,q⟩,r,s⟩=>⟨⟨p,r⟩,q,s⟩,fun ⟨⟨p,r⟩,q,s⟩=>⟨⟨p,q⟩,r,s⟩⟩
   have stop:¬ ((6≤x.kind∧x.kind≤8)∧B0 x)→(some (Lp.rt false):Option (Lp (Int×Int) (Int×Int) Bool)).bind (Im (AL (fun i y x=>C5 i y x.1 x.2) (fun x=>(x.1,x.2)) l (i+1)))=some (AB (kinds (x::l)∧∀ k∈x::l,B0 k) (.inl (((a+Bi 7 (x::l):Nat):Int),((b+Bi 8 (x::l):Nat):Int))) (.inr false)):=by
     intro h
     rw [Ab fun q=>h (hsplit.1 q).1];rfl
   have go:∀ {a' b':Nat},((6≤x.kind∧x.kind≤8)∧B0 x)→a'≤a+1→b'≤b+1→a'+Bi 7 l=a+Bi 7 (x::l)→b'+Bi 8 l=b+Bi 8 (x::l)→(some (Lp.nx (((a':Nat):Int),((b':Nat):Int))):Option (Lp (Int×Int) (Int×Int) Bool)).bind (Im (AL (fun i y x=>C5 i y x.1 x.2) (fun x=>(x.1,x.2)) l (i+1)))=some (AB (kinds (x::l)∧∀ k∈x::l,B0 k) (.inl (((a+Bi 7 (x::l):Nat):Int),((b+Bi 8 (x::l):Nat):Int))) (.inr false)):=by
     intro a' b' h h1 h2 e1 e2
     have ih:=ND (l:=l) (i:=i+1) (a:=a') (b:=b') (fun y hy=>hok y (by simp [hy])) (by omega) (by omega)
     rw [e1,e2] at ih
     show AL _ _ l (i+1) _=_
     rw [ih]
     by_cases hr:kinds l∧∀ k∈l,B0 k
     · rw [Ac hr,Ac (hsplit.2 ⟨h,hr⟩)]
     · rw [Ab hr,Ab fun q=>hr (hsplit.1 q).2]
   rw [← Yy]
   by_cases hb0:DQ x z0
   rotate_left
   · rw [Ab hb0];exact stop fun q=>hb0 q.2.1
   rw [Ac hb0]
   have one:∀ {A B:Option (Lp (Int×Int) (Int×Int) Bool)},x.kind≠7→(B0 x→A.bind (Im (AL (fun i y x=>C5 i y x.1 x.2) (fun x=>(x.1,x.2)) l (i+1)))=some (AB (kinds (x::l)∧∀ k∈x::l,B0 k) (.inl (((a+Bi 7 (x::l):Nat):Int),((b+Bi 8 (x::l):Nat):Int))) (.inr false))) →
       (AB (((x.kids.length:Nat):Int)=1) ((x.kids[0]?).bind fun x2=>(HX x2).bind fun y3=>cond y3 A (some (.rt false))) (some (.rt false))).bind (Im (AL (fun i y x=>C5 i y x.1 x.2) (fun x=>(x.1,x.2)) l (i+1)))=some (AB (kinds (x::l)∧∀ k∈x::l,B0 k) (.inl (((a+Bi 7 (x::l):Nat):Int),((b+Bi 8 (x::l):Nat):Int))) (.inr false)):=by
     intro A B k7 hA
     by_cases hl:x.kids.length=1
     rotate_left
     · rw [Ab (by omega)];exact stop fun q=>hl (q.2.2.2 k7).1
     rw [Ac (by omega)]
     obtain ⟨k,hk⟩:∃ k,x.kids=[k]:=by
       generalize x.kids=ks at hl
       match ks,hl with
       | [k],_=>exact ⟨k,rfl⟩
     have h0:x.kids[0]?=some k:=by rw [hk];rfl
     rw [h0]
     simp only [Option.bind_some]
     rw [hN (hks k (by rw [hk];simp))]
     simp only [Option.bind_some,BH]
     have hc:B0 x↔Lv k:=by
       unfold B0
       constructor
       · intro q;exact (q.2.2 k7).2 k (by rw [hk];simp)
       · intro q;exact ⟨hb0,fun h=>absurd h k7,fun _=>⟨hl,fun k' hk'=>by rw [hk,List.mem_singleton] at hk';rw [hk'];exact q⟩⟩
     by_cases he:Lv k
     · rw [Ac he];exact hA (hc.2 he)
     · rw [Ab he];exact stop fun q=>he (hc.1 q.2)
   by_cases k6:x.kind=6
   · rw [Ac k6]
     refine one (B:=none) (by omega) fun h=>go ⟨by omega,h⟩ (by omega) (by omega) (by simp [Bi,k6]) (by simp [Bi,k6])
   rw [Ab k6]
   by_cases k8:x.kind=8
   · rw [Ac k8,Ce (by omega),show ((b:Nat):Int)+1=((b+1:Nat):Int) by omega]
     refine one (B:=none) (by omega) fun h=>go ⟨by omega,h⟩ (by omega) (by omega) (by simp [Bi,k8]) (by simp [Bi,k8];omega)
   rw [Ab k8]
   by_cases k7:x.kind=7
   · rw [Ac k7]
     have hc:B0 x↔(0 < x.kids.length∧∀ k∈x.kids,Lv k∧MA k):=by
       unfold B0
       exact ⟨fun q=>q.2.1 k7,fun q=>⟨hb0,fun _=>q,fun h=>absurd k7 h⟩⟩
     rw [← hc]
     by_cases h:B0 x
     · rw [Ac h,Ce (by omega),show ((a:Nat):Int)+1=((a+1:Nat):Int) by omega]
       exact go ⟨by omega,h⟩ (by omega) (by omega) (by simp [Bi,k7];omega) (by simp [Bi,k7])
     · rw [Ab h];exact stop fun q=>h q.2
   · rw [Ab k7];exact stop fun q=>by have:=q.1;omega
theorem dF (l:List Nd) (hok:∀ x∈l,FM x) (hl:l.length≤9223372036854775807):Dl l=some (mb ((kinds l∧∀ k∈l,B0 k)∧Bi 7 l≤1∧Bi 8 l=1)):=by
 have h:=ND (l:=l) (i:=0) (a:=0) (b:=0) hok (by omega) (by omega)
 rw [Dl,Fy hl,List.drop_zero]
 rw [show (((0:Nat):Int))=0 from rfl] at h
 rw [h]
 by_cases hc:kinds l∧∀ k∈l,B0 k
 · rw [Ac hc]
   simp only [Option.bind_some,GQ,Fw,BV,BH,Hf,F1]
   exact Lh ⟨fun q=>⟨hc,by omega,by omega⟩,fun q=>⟨by omega,by omega⟩⟩
 · rw [Ab hc]
   exact Hq fun q=>hc q.1
theorem UF {n:Nd} (hok:FM n) (u:Prop):AB (n.kind=2) (AB (n.n=0∧zD n∧zT n∧n.kids=[]) (some (mb u)) (some false)) (AB (n.kind=3) (AB (zD n∧zT n∧n.kids=[]) (AB u (some (mb (1≤n.n∧n.n≤4))) (some false)) (some false)) (AB (n.kind=4) (AB (n.unit=eS∧zD n∧zT n) (AB (1≤n.n∧n.n≤1000000) (AB (1 < ((n.kids.length:Nat):Int)) ((n.kids[0]?).bind fun x=>(E4 x).bind fun y=>cond y ((Jv n.kids 1 ((n.kids.length:Nat):Int)).bind fun l=>(Dl l).bind fun y=>some y) (some false)) (some false)) (some false)) (some false)) (some false)))=some (mb ((n.kind=2∧u∧n.n=0∧zD n∧zT n∧n.kids=[])∨(n.kind=3∧u∧(1≤n.n∧n.n≤4)∧zD n∧zT n∧n.kids=[])∨(n.kind=4∧(n.unit=eS∧zD n∧zT n)∧G3 n.n∧∃ h cs,n.kids=h::cs∧kinds cs∧Bi 8 cs=1∧Bi 7 cs≤1∧IG h∧∀ k∈cs,B0 k))):=by
 obtain ⟨hps,hkl,hks⟩:=H7 hok
 by_cases k2:n.kind=2
 · rw [Ac k2,F1]
   refine Lh ⟨fun ⟨a,b⟩=>.inl ⟨k2,b,a⟩,?_⟩
   rintro (a | a | a)
   · exact ⟨a.2.2,a.2.1⟩
   · omega
   · omega
 rw [Ab k2]
 by_cases k3:n.kind=3
 · rw [Ac k3,F1,F1]
   refine Lh ⟨fun ⟨a,b,c⟩=>.inr (.inl ⟨k3,b,c,a⟩),?_⟩
   rintro (a | a | a)
   · omega
   · exact ⟨a.2.2.2,a.2.1,a.2.2.1⟩
   · omega
 rw [Ab k3]
 by_cases k4:n.kind=4
 rotate_left
 · rw [Ab k4]
   refine Hq ?_
   rintro (a | a | a)
   · omega
   · omega
   · omega
 rw [Ac k4]
 by_cases hl:1 < n.kids.length
 rotate_left
 · rw [Ab (show ¬ (1:Int) < ((n.kids.length:Nat):Int) by omega),L2,L2]
   refine Hq ?_
   rintro (a | a | ⟨_,_,_,h,cs,e,_,e8,_⟩)
   · omega
   · omega
   · rw [e] at hl
     have:=Jg 8 cs
     simp at hl
     rw [hl] at e8
     cases e8
 rw [Ac (show (1:Int) < ((n.kids.length:Nat):Int) by omega)]
 generalize n.kids=ks at *
 match ks,hl with
 | x::l,_ =>
 have hsub:Jv (x::l) 1 (((x::l).length:Nat):Int)=some l:=by
   unfold Jv
   rw [if_pos (by simp only [List.length_cons];omega)]
   simp
 rw [hsub]
 simp only [List.getElem?_cons_zero,Option.bind_some,xI,BH]
 rw [dF l (fun y hy=>hks y (by simp [hy])) (by simp at hkl;omega)]
 simp only [Option.bind_some,F1]
 refine Lh ⟨?_,?_⟩
 · rintro ⟨a,b,c,⟨d,e⟩,f,g⟩
   exact .inr (.inr ⟨k4,a,b,x,l,rfl,d,g,f,c,e⟩)
 · rintro (a | a | ⟨_,a,b,h,cs,e,d,g,f,c,e'⟩)
   · omega
   · omega
   · cases e
     exact ⟨a,b,c,⟨d,e'⟩,f,g⟩
theorem wR {n:Nd} (hok:FM n):Jq n=some (mb (FW n)):=by
 have c1:=UF hok True
 simp only [Ac trivial,← tL] at c1
 have c2:=UF hok (n.unit=BM)
 rw [Jq]
 simp only [gQ,uB,aaw,u4,pY,Lf,Option.bind_some,BV,B8,Di,BH]
 rw [c1,c2]
 have hbare:∀ {un:ByteArray} {k:Int},DQ n ⟨0,n.name,un,k,0,0,0,⟨0,[]⟩,[],0⟩↔n.unit=un∧n.n=k∧zD n∧zT n:=by
   intro un k
   unfold zD zT
   rw [aQ]
   simp only [true_and,and_assoc]
 simp only [F1,kB]
 refine Lh ?_
 unfold FW X1
 simp only [hbare,Yd,true_and]
 constructor
 · rintro ⟨hn,h1,h2⟩
   have uni:∀ {k:Prop},(EB n.unit→((n.kind=2∧n.n=0∧zD n∧zT n∧n.kids=[])∨(n.kind=3∧(1≤n.n∧n.n≤4)∧zD n∧zT n∧n.kids=[])∨(n.kind=4∧(n.unit=eS∧zD n∧zT n)∧G3 n.n∧∃ h cs,n.kids=h::cs∧kinds cs∧Bi 8 cs=1∧Bi 7 cs≤1∧IG h∧∀ k∈cs,B0 k)))→EB n.unit→((n.kind=2∧FK n.name∧EB n.unit∧n.kids=[]∧n.n=0∧zD n∧zT n)∨(n.kind=3∧FK n.name∧EB n.unit∧1≤n.n∧n.n≤4∧n.kids=[]∧zD n∧zT n)∨(n.kind=4∧G3 n.n∧FK n.name∧(n.unit=eS∧zD n∧zT n)∧∃ h cs,n.kids=h::cs∧kinds cs∧Bi 8 cs=1∧Bi 7 cs≤1∧IG h∧∀ k∈cs,B0 k)):=by
     intro _ h hu
     rcases h hu with ⟨a,b,c,d,e⟩ | ⟨a,b,c,d,e⟩ | ⟨a,b,c,d⟩
     · exact .inl ⟨a,hn,hu,e,b,c,d⟩
     · exact .inr (.inl ⟨a,hn,hu,b.1,b.2,e,c,d⟩)
     · exact .inr (.inr ⟨a,c,hn,b,d⟩)
   by_cases hc:Ns n.unit
   · exact uni (k:=True) (fun _=>h1 hc) (.inr (.inr (.inr hc)))
   obtain ⟨h3,h4⟩:=h2 hc
   by_cases ht:n.unit=Ak
   · exact uni (k:=True) (fun _=>h3 ht) (.inl ht)
   obtain ⟨h5,h6⟩:=h4 ht
   by_cases hm:n.unit=AF
   · exact uni (k:=True) (fun _=>h5 hm) (.inr (.inl hm))
   rcases h6 hm with ⟨a,b,r⟩ | ⟨a,b,r⟩ | r
   · exact uni (k:=True) (fun _=>.inl ⟨a,r⟩) (.inr (.inr (.inl b)))
   · exact uni (k:=True) (fun _=>.inr (.inl ⟨a,r⟩)) (.inr (.inr (.inl b)))
   · exact .inr (.inr ⟨r.1,r.2.2.1,hn,r.2.1,r.2.2.2⟩)
 · have back:(n.kind=2∧FK n.name∧EB n.unit∧n.kids=[]∧n.n=0∧zD n∧zT n)∨(n.kind=3∧FK n.name∧EB n.unit∧1≤n.n∧n.n≤4∧n.kids=[]∧zD n∧zT n)∨(n.kind=4∧G3 n.n∧FK n.name∧(n.unit=eS∧zD n∧zT n)∧∃ h cs,n.kids=h::cs∧kinds cs∧Bi 8 cs=1∧Bi 7 cs≤1∧IG h∧∀ k∈cs,B0 k)→FK n.name∧(n.kind≠4→EB n.unit)∧((n.kind=2∧n.n=0∧zD n∧zT n∧n.kids=[])∨(n.kind=3∧(1≤n.n∧n.n≤4)∧zD n∧zT n∧n.kids=[])∨(n.kind=4∧(n.unit=eS∧zD n∧zT n)∧G3 n.n∧∃ h cs,n.kids=h::cs∧kinds cs∧Bi 8 cs=1∧Bi 7 cs≤1∧IG h∧∀ k∈cs,B0 k)):=by
     rintro (⟨a,b,c,d,e,f,g⟩ | ⟨a,b,c,d,d',e,f,g⟩ | ⟨a,b,c,d,e⟩)
     · exact ⟨b,fun _=>c,.inl ⟨a,e,f,g,d⟩⟩
     · exact ⟨b,fun _=>c,.inr (.inl ⟨a,⟨d,d'⟩,f,g,e⟩)⟩
     · exact ⟨c,fun h=>absurd a h,.inr (.inr ⟨a,d,b,e⟩)⟩
   intro h
   obtain ⟨hn,hu,r⟩:=back h
   refine ⟨hn,fun _=>r,fun nc=>⟨fun _=>r,fun nt=>⟨fun _=>r,fun nn=>?_⟩⟩⟩
   rcases r with ⟨a,r⟩ | ⟨a,r⟩ | r
   · have hm:n.unit=BM:=by
       rcases hu (by omega) with h | h | h | h
       · exact absurd h nt
       · exact absurd h nn
       · exact h
       · exact absurd h nc
     exact .inl ⟨a,hm,r⟩
   · have hm:n.unit=BM:=by
       rcases hu (by omega) with h | h | h | h
       · exact absurd h nt
       · exact absurd h nn
       · exact h
       · exact absurd h nc
     exact .inr (.inl ⟨a,hm,r⟩)
   · exact .inr (.inr r)
theorem ZH {n:Nd} (hok:FM n):GX n=some (mb (Rb n)):=by
 obtain ⟨hps,hkl,hks⟩:=H7 hok
 rw [GX,aap n hok,hN hok]
 simp only [Option.bind_some,BH,BV]
 unfold Rb
 by_cases hf:DG n≤2000∧L3 n≤40
 rotate_left
 · rw [Ab hf];exact Hq fun q=>hf q.2
 rw [Ac hf]
 by_cases k1:n.kind=1
 · rw [Ac k1,ID (v:=false) (P:=fun _ k=>FW k) hkl (fun i k hk=>by
     simp only [I7]
     rw [wR (hks k (List.mem_of_getElem? hk))]
     simp only [Option.bind_some,BH,TN]),Vp]
   simp only [Option.bind_some,F1,Lg]
   refine Lh ⟨fun q=>⟨.inl ⟨k1,(Yy n).2 q.2,q.1⟩,hf⟩,?_⟩
   rintro ⟨a | a,_⟩
   · exact ⟨a.2.2,(Yy n).1 a.2.1⟩
   · exact absurd k1 a.1
 · rw [Ab k1]
   refine Lh ⟨fun q=>⟨.inr ⟨k1,q⟩,hf⟩,?_⟩
   rintro ⟨a | a,_⟩
   · exact absurd a.1 k1
   · exact a.2
end Mo
end Go.Proofs.YtnijkdknnmgoeaaGreat

namespace Go.Proofs.YtnijkdknnmgoeaaGreat
open AI Go
namespace Mo
set_option maxRecDepth 100000
set_option maxHeartbeats 4000000
theorem aak {n:Nd} (h:FM n):I1 n=some (mb (((DG n:Nat):Int)≤2100∧((L3 n:Nat):Int)≤100)):=by
 have hf:Jh n 100=some (mb (((L3 n:Nat):Int)≤100)):=Jw (DG n) fun q hq=>iI q n 100 h hq (by omega) (by omega)
 rw [I1,tJ n 2100 h (by omega),hf]
 simp only [Option.bind_some,BH,F1]
mutual
def rR:Nd→Prop
 | ⟨_,_,_,_,_,_,_,tab,kids,_⟩=>tab.ps.length≤1000∧iZ kids
def iZ:List Nd→Prop
 | []=>True
 | k::ks=>rR k∧iZ ks
end
theorem kK {l:List Nd}:iZ l↔∀ k∈l,rR k:=by
 induction l with
 | nil=>simp [iZ]
 | cons k l ih=>simp [iZ,ih]
theorem ZJ (e:Nd):rR e↔e.tab.ps.length≤1000∧∀ k∈e.kids,rR k:=by cases e;rw [rR,kK]
theorem aar {p:Prop} {a b:Ex} (ha:Qu a) (hb:Qu b):Qu (AB p a b):=by
 by_cases h:p
 · rw [Ac h];exact ha
 · rw [Ab h];exact hb
theorem uP (t:Tr) {n:Nd} (hn:n.tab.ps.length≤1000) {ks:List Ex} (hk:∀ k∈ks,Qu k):Qu (bX t n ks):=by
 have h0:∀ (o m:Int) (u:ByteArray) (d:Int),Qu ⟨o,m,u,⟨d,[]⟩,ks⟩:=fun o m u d=>by
   rw [Qu,NM];exact ⟨by simp,hk⟩
 have h1:∀ (o m:Int) (u:ByteArray) (d:Int),Qu ⟨o,m,u,⟨d,[]⟩,[]⟩:=fun o m u d=>by
   rw [Qu,NM];exact ⟨by simp,fun k h=>by cases h⟩
 have h2:∀ (o m:Int) (u:ByteArray) (d o2 m2:Int) (u2:ByteArray) (d2:Int),Qu ⟨o,m,u,⟨d,[]⟩,[⟨o2,m2,u2,⟨d2,[]⟩,ks⟩]⟩:=fun o m u d o2 m2 u2 d2=>by
   rw [Qu,NM]
   refine ⟨by simp,fun k h=>?_⟩
   rw [List.mem_singleton] at h
   subst h
   exact h0 _ _ _ _
 have h3:∀ (o m:Int) (u:ByteArray) (d:Int),Qu ⟨o,m,u,⟨d,n.tab.ps⟩,ks⟩:=fun o m u d=>by
   rw [Qu,NM];exact ⟨hn,hk⟩
 unfold bX Wa dX
 repeat' apply aar
 all_goals first | exact h0 _ _ _ _ | exact h1 _ _ _ _ | exact h2 _ _ _ _ _ _ _ _ | exact h3 _ _ _ _
theorem wD (t:Tr):∀ (m:Nat) (e:Nd),DG e≤m→rR e→Qu (Kk t e):=by
 intro m
 induction m with
 | zero=>intro e h;have:=B6 e;omega
 | succ m ih =>
   intro e hm he
   obtain ⟨h1,h2⟩:=(ZJ e).1 he
   rw [QI]
   refine uP t h1 (fun k hk=>?_)
   obtain ⟨x,hx,rfl⟩:=List.mem_map.1 hk
   exact ih x (by have:=JQ hx;omega) (h2 x hx)
theorem uY:∀ (m:Nat) (e:Nd),DG e≤m→Lv e→rR e:=by
 intro m
 induction m with
 | zero=>intro e h;have:=B6 e;omega
 | succ m ih =>
   intro e hm he
   obtain ⟨hq,hks⟩:=(JL e).1 he
   rw [ZJ]
   refine ⟨?_,fun k hk=>ih k (by have:=JQ hk;omega) (hks k hk)⟩
   unfold NW at hq
   have hb:∀ {f:Nd},DQ e f→f.tab.ps.length≤1000→e.tab.ps.length≤1000:=fun h h2=>by rw [h.2.2.2.2.2.2.2];exact h2
   rcases hq with h | h | h | h | h | h | h | h
   · exact hb h.2.2.2.2.2.2 (by simp)
   · exact hb h.2.2.2 (by simp)
   · exact hb h.2.2.2 (by simp)
   · exact hb h.2.2.2 (by simp)
   · exact hb h.2.2 (by simp)
   · exact hb h.2.1 (by simp)
   · exact hb h.2.2.1 (by simp)
   · have:=h.2.2.1;unfold Uc at this;omega
end Mo
end Go.Proofs.YtnijkdknnmgoeaaGreat
namespace Go.Proofs.YtnijkdknnmgoeaaGreat
open AI Go
namespace Mo
set_option maxRecDepth 100000
set_option maxHeartbeats 4000000
def jL (s:List Dg×List Int×List Ex×Ex):Prop:=(∀ x∈s.2.2.1,LS x≤1000000∧Qu x)∧LS s.2.2.2≤1000000∧Qu s.2.2.2
theorem Xr (t:Tr):∀ (l:List Nd) (s:List Dg×List Int×List Ex×Ex),(∀ e∈l,rR (e.kids.headD e)∧DG (e.kids.headD e)≤100000)→jL s→jL (l.foldl (Ga t) s)∧(l.foldl (Ga t) s).2.2.1.length≤s.2.2.1.length+l.length∧(l.foldl (Ga t) s).2.1.length≤s.2.1.length+GR l
 | [],s,_,h=>⟨h,Nat.le_refl _,Nat.le_refl _⟩
 | e::l,s,hl,h=>by
   obtain ⟨p1,p2⟩:=hl e (by simp)
   have hx:=X2 t (e.kids.headD e)
   have ho:=wD t _ (e.kids.headD e) (Nat.le_refl _) p1
   have hsz:=B6 e
   have hlen:=FG e.kids
   obtain ⟨h1,h2,h3⟩:=h
   have key:jL (Ga t s e)∧(Ga t s e).2.2.1.length≤s.2.2.1.length+1∧(Ga t s e).2.1.length≤s.2.1.length+DG e:=by
     unfold Ga
     by_cases k7:e.kind=7
     · rw [Ac k7]
       exact ⟨⟨h1,h2,h3⟩,by simp only;omega,by simp only [List.length_append,List.length_map];omega⟩
     rw [Ab k7]
     by_cases k6:e.kind=6
     · rw [Ac k6]
       refine ⟨⟨fun x hx2=>?_,h2,h3⟩,by simp,by simp only;omega⟩
       simp only [List.mem_append,List.mem_singleton] at hx2
       rcases hx2 with hx2 | rfl
       · exact h1 x hx2
       · exact ⟨by omega,ho⟩
     · rw [Ab k6]
       exact ⟨⟨h1,by simp only;omega,ho⟩,by simp only;omega,by simp only;omega⟩
   obtain ⟨k1,k2,k3⟩:=key
   obtain ⟨q1,q2,q3⟩:=Xr t l (Ga t s e) (fun b hb=>hl b (by simp [hb])) k1
   rw [List.foldl_cons]
   exact ⟨q1,by rw [List.length_cons];omega,by rw [GR];omega⟩
theorem zZ (t:Tr) {it:Nd} (hz:DG it≤100000) (h:∀ e∈it.kids.tail,rR (e.kids.headD e)∧DG (e.kids.headD e)≤100000):dU (Pr t it):=by
 obtain ⟨⟨h1,h2,h3⟩,h4,h5⟩:=Xr t it.kids.tail ([],[],[],⟨0,0,ByteArray.empty,⟨0,[]⟩,[]⟩) h ⟨fun x hx=>(by cases hx),(by simp [LS,IB]),(by simp [Qu,cO])⟩
 have hsz:=B6 it
 have hl:=FG it.kids
 have ht:it.kids.tail.length≤it.kids.length∧GR it.kids.tail≤GR it.kids:=by
   cases it.kids with
   | nil=>exact ⟨Nat.le_refl _,Nat.le_refl _⟩
   | cons a l=>exact ⟨by simp,by rw [GR,List.tail_cons];omega⟩
 simp only [List.length_nil,Nat.zero_add] at h4 h5
 refine ⟨?_,?_,h1,h2,h3⟩
 · show (D8 t it.kids.tail).2.2.1.length≤_
   unfold D8;omega
 · show (D8 t it.kids.tail).2.1.length≤_
   unfold D8;omega
theorem ZG (t:Tr):∀ (l:List Nd) (s:List Dg×List Ar),(∀ it∈l,it.kind=4→dU (Pr t it))→(∀ a∈s.2,dU a)→(∀ a∈(l.foldl (b1 t) s).2,dU a)∧(l.foldl (b1 t) s).2.length≤s.2.length+l.length
 | [],s,_,h=>⟨h,Nat.le_refl _⟩
 | k::l,s,hl,h=>by
   have key:(∀ a∈(b1 t s k).2,dU a)∧(b1 t s k).2.length≤s.2.length+1:=by
     unfold b1
     by_cases k4:k.kind=4
     · rw [Ac k4]
       refine ⟨fun a ha=>?_,by simp⟩
       simp only [List.mem_append,List.mem_singleton] at ha
       rcases ha with ha | rfl
       · exact h a ha
       · exact hl k (by simp) k4
     · rw [Ab k4];exact ⟨h,by omega⟩
   obtain ⟨q1,q2⟩:=ZG t l (b1 t s k) (fun it hi=>hl it (by simp [hi])) key.1
   rw [List.foldl_cons]
   exact ⟨q1,by rw [List.length_cons];omega⟩
theorem iE:∀ (l:List Nd) (s:List Dc×Mm ByteArray Int×List Dc×Mm ByteArray Int),(l.foldl P6 s).1.length≤s.1.length+l.length∧(l.foldl P6 s).2.2.1.length≤s.2.2.1.length+l.length
 | [],s=>⟨Nat.le_refl _,Nat.le_refl _⟩
 | k::l,s=>by
   have key:(P6 s k).1.length≤s.1.length+1∧(P6 s k).2.2.1.length≤s.2.2.1.length+1:=by
     unfold P6
     by_cases k2:k.kind=2
     · rw [Ac k2];exact ⟨by simp,by simp only;omega⟩
     rw [Ab k2]
     by_cases k3:k.kind=3
     · rw [Ac k3];exact ⟨by simp only;omega,by simp⟩
     · rw [Ab k3];omega
   have:=iE l (P6 s k)
   rw [List.foldl_cons,List.length_cons]
   omega
theorem UU {n:Nd} (h:(DE n).2=[]):(DE n).1.facts.length≤2000∧(DE n).1.lines.length≤2000∧(DE n).1.arts.length≤2000∧∀ a∈(DE n).1.arts,dU a:=by
 obtain ⟨nk,nv,nc,nb,ne⟩:=Su h
 rw [ne]
 obtain ⟨_,hit,hsz,_⟩:=RF nv nk
 have he:=B6 n
 have hl:=FG n.kids
 obtain ⟨a1,a2⟩:=ZG (Fj n.kids) n.kids ([],[]) (fun it hi k4=>by
   have hiz:=EY hi
   refine zZ _ (by omega) (fun e he=>?_)
   obtain ⟨_,_,_,h,cs,hkids,_,_,_,_,hcl⟩:=(sF k4).1 (hit it hi)
   have hit2:=B6 it
   rw [hkids,GR] at hit2
   rw [hkids,List.tail_cons] at he
   have hez:=EY he
   obtain ⟨_,c7,cn⟩:=hcl e he
   have hee:=B6 e
   have hex:0 < e.kids.length∧∀ k∈e.kids,Lv k:=by
     by_cases k7:e.kind=7
     · exact ⟨(c7 k7).1,fun k hk=>((c7 k7).2 k hk).1⟩
     · exact ⟨by have:=(cn k7).1;omega,(cn k7).2⟩
   cases hek:e.kids with
   | nil=>rw [hek] at hex;simp at hex
   | cons k l =>
     have hkm:k∈e.kids:=by rw [hek];simp
     have:=EY hkm
     rw [List.headD_cons]
     exact ⟨uY _ k (Nat.le_refl _) (hex.2 k hkm),by omega⟩) (fun a ha=>by cases ha)
 obtain ⟨b1,b2⟩:=iE n.kids ([],Mm.nil,[],Mm.nil)
 simp only [List.length_nil,Nat.zero_add] at a2 b1 b2
 refine ⟨?_,?_,?_,a1⟩
 · show (FJ n.kids).1.length≤_;unfold FJ;omega
 · show (FJ n.kids).2.2.1.length≤_;unfold FJ;omega
 · show (Ls (Fj n.kids) n.kids).2.length≤_;unfold Ls;omega
theorem Yj {n:Nd} (h:(DE n).2=[]):Db (DE n).1 (DE n).1=some true∧(DE n).1.arts.length≤2000:=by
 obtain ⟨h1,h2,h3,h4⟩:=UU h
 exact ⟨TK (by omega) (by omega) (by omega) h4,h3⟩
end Mo
end Go.Proofs.YtnijkdknnmgoeaaGreat
namespace Go.Proofs.YtnijkdknnmgoeaaGreat
open AI Go
namespace Mo
set_option maxRecDepth 100000
set_option maxHeartbeats 4000000
theorem acM {β:Type} {p:Prop} [Decidable p] {x y:β}:AB p x y=if p then x else y:=by
 by_cases h:p
 · rw [Ac h,if_pos h]
 · rw [Ab h,if_neg h]
theorem Ih {β:Type} {x y:β}:AB True x y=x:=Ac trivial
theorem GS {β:Type} {x y:β}:AB False x y=y:=Ab fun h=>h
theorem Ye (u:ByteArray):Ed u=some (mb (u≠Ak∧u≠AF∧u≠BM)):=by
 rw [Ed]
 simp only [B8,BH,lW,bP]
theorem RV {u:ByteArray} (h:u≠eS):dW u↔(u≠Ak∧u≠AF∧u≠BM):=⟨fun k=>k.2,fun k=>⟨h,k⟩⟩
theorem Pl (k:Int) (x:ByteArray):∀ (l:List Nd) (i:Nat),(∃ nd,AL (fun i y x'=>Gp k x i y) (fun _=>()) l i ()=(some (.inr (nd,true)):Option (Unit⊕(Nd×Bool)))∧fU k l x=some nd.unit)∨(AL (fun i y x'=>Gp k x i y) (fun _=>()) l i ()=(some (.inl ()):Option (Unit⊕(Nd×Bool)))∧fU k l x=none)
 | [],_=>.inr ⟨rfl,rfl⟩
 | a::l,i=>by
   rw [AL,Gp,fU,HN,Nc]
   by_cases h:a.kind=k
   · rw [Ac h]
     by_cases h2:a.name=x
     · rw [Ac h2,Ac ⟨h,h2⟩]
       exact .inl ⟨a,rfl,rfl⟩
     · rw [Ab h2,Ab fun e=>h2 e.2]
       exact Pl k x l (i+1)
   · rw [Ab h,Ab fun e=>h e.1]
     exact Pl k x l (i+1)
theorem RI {src:Nd} (hl:src.kids.length≤9223372036854775807) (k:Int) (x:ByteArray):∃ nd,Fa src k x=some (nd,mb (fU k src.kids x≠none))∧nd.unit=(fU k src.kids x).getD eS:=by
 rw [Fa,Fy hl,List.drop_zero]
 rcases Pl k x src.kids 0 with ⟨nd,h1,h2⟩ | ⟨h1,h2⟩
 · rw [h1,h2];exact ⟨nd,by rw [BG.2 (by simp)];rfl,rfl⟩
 · rw [h1,h2];exact ⟨_,by rw [Vj (by simp)];rfl,rfl⟩
theorem Qw (z:Int):∀ (l:List Nd) (i:Nat),(∃ nd,AL (fun i y x'=>Ff z i y) (fun _=>()) l i ()=(some (.inr (nd,true)):Option (Unit⊕(Nd×Bool)))∧fA l z=some nd.name)∨(AL (fun i y x'=>Ff z i y) (fun _=>()) l i ()=(some (.inl ()):Option (Unit⊕(Nd×Bool)))∧fA l z=none)
 | [],_=>.inr ⟨rfl,rfl⟩
 | a::l,i=>by
   rw [AL,Ff,fA,HN,HN]
   by_cases h:a.kind=4
   · rw [Ac h]
     by_cases h2:a.n=z
     · rw [Ac h2,Ac ⟨h,h2⟩]
       exact .inl ⟨a,rfl,rfl⟩
     · rw [Ab h2,Ab fun e=>h2 e.2]
       exact Qw z l (i+1)
   · rw [Ab h,Ab fun e=>h e.1]
     exact Qw z l (i+1)
theorem YN {src:Nd} (hl:src.kids.length≤9223372036854775807) (z:Int):∃ nd,EN src z=some (nd,mb (fA src.kids z≠none))∧nd.name=(fA src.kids z).getD eS:=by
 rw [EN,Fy hl,List.drop_zero]
 rcases Qw z src.kids 0 with ⟨nd,h1,h2⟩ | ⟨h1,h2⟩
 · rw [h1,h2];exact ⟨nd,by rw [BG.2 (by simp)];rfl,rfl⟩
 · rw [h1,h2];exact ⟨_,by rw [Vj (by simp)];rfl,rfl⟩
theorem mF (p:Prop):BS (mb p)=some (AB p Ak eS):=by
 rw [BS,BH]
 by_cases h:p
 · rw [Ac h,Ac h]
 · rw [Ab h,Ab h]
theorem Z5 (u:ByteArray):DJ u=some (AB (u=Ak) eS u):=by
 rw [DJ,Nc]
 by_cases h:u=Ak
 · rw [Ac h,Ac h]
 · rw [Ab h,Ab h]
theorem Tg {a:ByteArray} {m:List ByteArray} (hm:m[0]?=some a):∀ (l:List ByteArray) (i:Nat),AL (fun i y x=>Hj m i y) (fun _=>()) l i ()=some (AB (∀ u∈l,u=a) (.inl ()) (.inr eS))
 | [],_=>by rw [AL,Ac (fun u hu=>by cases hu)]
 | b::l,i=>by
   rw [AL,Hj,hm]
   simp only [Option.bind_some,Nc]
   by_cases h:b=a
   · rw [Ac h]
     refine (Tg hm l (i+1)).trans ?_
     by_cases h2:∀ u∈l,u=a
     · rw [Ac h2,Ac fun u hu=>by rcases List.mem_cons.1 hu with rfl | hu;exact h;exact h2 u hu]
     · rw [Ab h2,Ab fun k=>h2 fun u hu=>k u (List.mem_cons_of_mem _ hu)]
   · rw [Ab h,Ab fun k=>h (k b (by simp))]
     rfl
theorem ZX {a:ByteArray} {l:List ByteArray} (hl:(a::l).length≤9223372036854775807):E5 (a::l)=some (AB (∀ u∈a::l,u=a) a eS):=by
 rw [E5,Fy hl,Tg (a:=a) rfl]
 by_cases h:∀ u∈l,u=a
 · rw [show (a::l).drop 1=l from rfl,Ac h,Ac fun u hu=>by rcases List.mem_cons.1 hu with rfl | hu;rfl;exact h u hu]
   rfl
 · rw [show (a::l).drop 1=l from rfl,Ab h,Ab fun k=>h fun u hu=>k u (List.mem_cons_of_mem _ hu)]
   rfl
theorem fX (a b:ByteArray):(∀ u∈[a,b],u=a)=(b=a):=by simp
theorem jV {op a b:ByteArray} (hop:SW op) (hb:b≠eS):HB op a b=some (HY op [a,b]):=by
 have hT:BS true=some Ak:=rfl
 have hF:BS false=some eS:=rfl
 have hE:E5 [a,b]=some (AB (b=a) a eS):=by rw [ZX (by simp),fX]
 unfold HY GO
 rw [show [a,b].headD eS=a from rfl,show [a,b].getLastD eS=b from rfl,fX,HB]
 simp only [B8,fR,BH,mF,Z5,hE,hF,hT,Ye,Option.bind_some,propext (RV hb)]
 rcases hop with rfl | rfl | rfl | rfl | rfl | rfl | rfl | rfl | rfl | rfl | rfl<;>simp (decide:=true) only [Ih,GS]<;>simp only [acM]<;>grind
theorem abB (a:ByteArray):HY IP [a]=AB (a=Ak) Ak eS:=by
 unfold HY GO
 rw [show [a].headD eS=a from rfl,show (∀ u∈[a],u=a)=True from by simp]
 simp (decide:=true) only [Ih,GS]
theorem aaL {a:ByteArray} {l:List ByteArray}:HY K5 (a::l)=AB (∀ u∈a::l,u=a) (AB (a=Ak) eS a) eS:=by
 unfold HY GO
 rw [show (a::l).headD eS=a from rfl]
 simp (decide:=true) only [Ih,GS]
theorem Vs {u:ByteArray} (h:EB u):u≠eS:=by
 rintro rfl
 rcases h with h | h | h | h
 · exact absurd h (by decide)
 · exact absurd h (by decide)
 · exact absurd h (by decide)
 · exact absurd h.1 (by decide)
theorem uO {src n:Nd} {ds:List Dg} {us:List ByteArray} (hl:src.kids.length≤9223372036854775807) (hq:NW n) (hu:us.length=n.kids.length) (h2:n.kids.length≤2000) (hne:∀ u∈us,u≠eS):∃ e,En ⟨src,ds⟩ n us=some (HH (fact src) (XO src) n us,e)∧(HH (fact src) (XO src) n us=eS→e=NQ n):=by
 unfold HH NQ
 rw [En]
 simp only [HN]
 have hsome:∀ {x y:ByteArray×Int} {p:Prop},p→AB p (some x) (some y)=some x:=fun h=>Ac h
 rcases R5 hq with k | k | k | k | k | k | k | k
 · rw [Ac k,Ac k]
   exact ⟨0,rfl,fun e=>absurd e (Vs ((iJ k).1 hq).1)⟩
 · obtain ⟨nd,h1,h3⟩:=RI hl 2 n.name
   simp (decide:=true) only [k,Ih,GS,h1,Option.bind_some]
   exact ⟨91,by rw [h3];rfl,fun _=>rfl⟩
 · obtain ⟨nd,h1,h3⟩:=YN hl n.n
   obtain ⟨md,h4,h5⟩:=RI hl 3 nd.name
   simp (decide:=true) only [k,Ih,GS,h1,h4,Option.bind_some]
   exact ⟨91,by rw [h5,h3];rfl,fun _=>rfl⟩
 · simp (decide:=true) only [k,Ih,GS]
   exact ⟨0,rfl,fun e=>absurd e (by decide)⟩
 · obtain ⟨a1,_⟩:=(qD k).1 hq
   match us,hu.trans a1 with
   | [a],_ =>
     simp (decide:=true) only [k,Ih,GS,List.getElem?_cons_zero,Option.bind_some,B8,BH,abB]
     by_cases h:a=Ak
     · rw [Ac h,Ac h];exact ⟨11,rfl,fun _=>rfl⟩
     · rw [Ab h,Ab h];exact ⟨11,rfl,fun _=>rfl⟩
 · obtain ⟨_,a2,a3,_⟩:=(rP k).1 hq
   match us,hu.trans a2 with
   | [a,b],_ =>
     have hb:b≠eS:=hne b (by simp)
     simp (decide:=true) only [k,Ih,GS,List.getElem?_cons_zero,List.getElem?_cons_succ,Option.bind_some,jV a3 hb]
     exact ⟨11,rfl,fun _=>rfl⟩
 · obtain ⟨_,_,a3⟩:=(lX k).1 hq
   match us,hu with
   | [],h=>simp only [List.length_nil] at h;omega
   | a::l,h =>
     simp (decide:=true) only [k,Ih,GS,ZX (a:=a) (l:=l) (by omega),Z5,Option.bind_some,aaL]
     refine ⟨11,?_,fun _=>rfl⟩
     by_cases h1:∀ u∈a::l,u=a
     · rw [Ac h1,Ac h1]
     · rw [Ab h1,Ab h1,Ab (by decide)]
 · obtain ⟨_,_,a3⟩:=(oI k).1 hq
   match us,hu.trans a3 with
   | [a],_ =>
     have ha:a≠eS:=hne a (by simp)
     simp (decide:=true) only [k,Ih,GS,List.getElem?_cons_zero,Option.bind_some,Ye,BH,List.headD_cons,propext (RV ha)]
     by_cases h:a≠Ak∧a≠AF∧a≠BM
     · rw [Ac h,Ac h];exact ⟨0,rfl,fun e=>absurd e ha⟩
     · rw [Ab h,Ab h];exact ⟨11,rfl,fun _=>rfl⟩
theorem J0 (src:Nd) {ds:List Dg} (h:ds.length≤20) (e at_:Int):Bh ⟨src,ds⟩ e at_=some ((),cap ds [⟨e,at_⟩]):=by
 rw [Bh,← O7 h,Xo]
 dsimp only
 unfold Of
 by_cases h2:ds.length < 20
 · rw [Ac (by omega),if_pos h2,G9 (by omega)]
 · rw [Ab (by omega),if_neg h2]
theorem kQ {src:Nd} {g:Cq→Nd→Option (ByteArray×List Dg)} {c:Cq} (hc:c.src=src):∀ {l:List Nd} {us:List ByteArray} {w:Prop} {ds:List Dg} {i:Nat},(∀ k∈l,∀ ds:List Dg,ds.length≤20→g ⟨src,ds⟩ k=some ((IM src k).1,cap ds (IM src k).2))→us.length+l.length≤100000000→ds.length≤20 →
   AL (fun i y x=>Dd g c i y x.1 x.2.1 x.2.2) (fun x=>(x.1,x.2.1,x.2.2)) l i (us,mb w,ds)=some (.inl (us++l.map (fun k=>(IM src k).1),mb (w∧∀ k∈l,(IM src k).1≠eS),cap ds (l.flatMap fun k=>(IM src k).2)))
 | [],us,w,ds,i,_,_,h=>by rw [AL,List.flatMap_nil,Ew h];simp
 | a::l,us,w,ds,i,hk,hl,h=>by
   simp only [List.length_cons] at hl
   rw [AL,Dd,hc,hk a (by simp) ds h]
   simp only [Option.bind_some]
   rw [G9 (by omega)]
   simp only [B8,BH]
   have ih:=fun w'=>kQ (g:=g) (c:=c) hc (l:=l) (us:=us++[(IM src a).1]) (w:=w') (ds:=cap ds (IM src a).2) (i:=i+1) (fun k h1=>hk k (by simp [h1])) (by simp;omega) (Ev _ _)
   have fin:∀ w':Prop,(w'↔w∧(IM src a).1≠eS)→(AL (fun i y x=>Dd g c i y x.1 x.2.1 x.2.2) (fun x=>(x.1,x.2.1,x.2.2)) l (i+1) (us++[(IM src a).1],mb w',cap ds (IM src a).2))=(some (.inl (us++(a::l).map (fun k=>(IM src k).1),mb (w∧∀ k∈a::l,(IM src k).1≠eS),cap ds ((a::l).flatMap fun k=>(IM src k).2))):Option ((List ByteArray×Bool×List Dg)⊕(ByteArray×List Dg))):=by
     intro w' hw
     rw [ih w',EW]
     congr 2
     refine Prod.ext (by simp) (Prod.ext (Dh ?_) (by simp))
     simp only [List.mem_cons,forall_eq_or_imp,hw,and_assoc]
   by_cases hw:w
   · rw [Ac hw]
     by_cases hu:(IM src a).1=eS
     · rw [Ac hu,mbF]
       exact fin False ⟨fun q=>q.elim,fun q=>q.2 hu⟩
     · rw [Ab hu,tL]
       exact fin True ⟨fun _=>⟨hw,hu⟩,fun _=>trivial⟩
   · rw [Ab hw,mbF]
     exact fin False ⟨fun q=>q.elim,fun q=>hw q.1⟩
theorem rV {src:Nd} (hl:src.kids.length≤9223372036854775807):∀ (q:Nat) (n:Nd) (ds:List Dg),Lv n→DG n≤q→DG n≤2000→ds.length≤20→Cc q ⟨src,ds⟩ n=some ((IM src n).1,cap ds (IM src n).2):=by
 intro q
 induction q with
 | zero=>intro n ds _ h;have:=B6 n;omega
 | succ q ih =>
 intro n ds he hq h2 hd
 obtain ⟨hQ,hks⟩:=(JL n).1 he
 have hsz:=B6 n
 have hkl:=FG n.kids
 have hf:=kQ (src:=src) (g:=Cc q) (c:=⟨src,ds⟩) rfl (l:=n.kids) (us:=[]) (w:=True) (ds:=ds) (i:=0) (fun k hk ds' hd'=>ih k ds' (hks k hk) (by have:=EY hk;omega) (by have:=EY hk;omega) hd') (by simp;omega) hd
 simp only [List.nil_append,true_and,← tL] at hf
 have hS:IM src n=Xz (fact src) (XO src) n (n.kids.map (fun k=>(IM src k).1),n.kids.flatMap fun k=>(IM src k).2):=by
   unfold IM
   rw [QH,Mv]
 rw [Cc,FX,Fy (by omega),List.drop_zero,hf,hS]
 show cond (mb (∀ k∈n.kids,(IM src k).1≠eS)) _ _=_
 rw [BH]
 have hall:(∀ u∈n.kids.map (fun k=>(IM src k).1),u≠eS)↔∀ k∈n.kids,(IM src k).1≠eS:=by simp
 unfold Xz
 by_cases hw:∀ k∈n.kids,(IM src k).1≠eS
 · rw [Ac hw,Ac (p:=∀ u∈n.kids.map (fun k=>(IM src k).1),u≠eS) (hall.2 hw)]
   obtain ⟨e,h3,h4⟩:=uO (src:=src) (ds:=cap ds (n.kids.flatMap fun k=>(IM src k).2)) hl hQ (us:=n.kids.map fun k=>(IM src k).1) (by simp) (by omega) (hall.2 hw)
   rw [h3]
   simp only [Option.bind_some,B8,BH]
   by_cases hU:HH (fact src) (XO src) n (n.kids.map fun k=>(IM src k).1)=eS
   · rw [Ac hU,Ac hU,h4 hU,J0 src (Ev _ _),EW]
     rfl
   · rw [Ab hU,Ab hU]
 · rw [Ab hw,Ab (p:=∀ u∈n.kids.map (fun k=>(IM src k).1),u≠eS) fun k=>hw (hall.1 k)]
theorem nP {src n:Nd} {ds:List Dg} (hl:src.kids.length≤9223372036854775807) (he:Lv n) (h:DG n≤2000) (hd:ds.length≤20):HF ⟨src,ds⟩ n=some ((IM src n).1,cap ds (IM src n).2) :=
 Jw (DG n) fun q hq=>rV hl q n ds he hq h hd
theorem dH {n:Nd} (hok:FM n):Hh n=some (mb (n.kind=1∧Rb n)):=by
 rw [Hh,ZH hok]
 simp only [Option.bind_some,BV,BH,F1]
end Mo
end Go.Proofs.YtnijkdknnmgoeaaGreat
namespace Go.Proofs.YtnijkdknnmgoeaaGreat
open AI Go
namespace Mo
set_option maxRecDepth 100000
set_option maxHeartbeats 4000000
theorem aD {src a:Nd} {i:Nat} {ds:List Dg} (hl:src.kids.length≤9223372036854775807) (ha:src.kids[i]?=some a) (hk:a.kind=2∨a.kind=3) (hu:a.unit≠eS) (hd:ds.length≤20):Cf ⟨src,ds⟩ ((i:Nat):Int) ((Bi a.kind (src.kids.take i):Nat):Int)=some ((),cap ds (Ik (src.kids.take i) a)):=by
 have hi:=(List.getElem?_eq_some_iff.1 ha).1
 rw [Cf]
 have hg:CP src.kids ((i:Nat):Int)=some a:=by unfold CP;rw [if_pos (by omega)];exact ha
 rw [hg]
 simp only [Option.bind_some]
 rw [K2]
 refine uW (fun z=>∃ k:Nat,z=((k:Nat):Int)∧k≤i∧∀ (j:Nat) b,j < k→src.kids[j]?=some b→¬ (b.kind=a.kind∧b.name=a.name)) (fun z=>i - z.toNat) ⟨0,rfl,Nat.zero_le _,fun j b h=>by omega⟩ ?_
 rintro z ⟨k,rfl,hki,hno⟩
 rw [Dj]
 simp only [Xo,HN,Nc]
 by_cases hlt:((k:Nat):Int) < ((i:Nat):Int)
 · rw [Ac hlt]
   have hk':k < src.kids.length:=by omega
   have hb:src.kids[k]?=some src.kids[k]:=List.getElem?_eq_getElem hk'
   have hg:CP src.kids ((k:Nat):Int)=some src.kids[k]:=by unfold CP;rw [if_pos (by omega)];exact hb
   rw [hg]
   generalize src.kids[k]=b at hb hg
   simp only [Option.bind_some]
   have next:∀ {Qx:Unit→Prop} {Qr:(Unit×List Dg)→Prop},¬ (b.kind=a.kind∧b.name=a.name)→Sp (some (Lp.nx (BW ((k:Nat):Int) 1)):Option (Lp Int Unit (Unit×List Dg))) (RQ (fun x'=>(∃ k:Nat,x'=((k:Nat):Int)∧k≤i∧∀ (j:Nat) b,j < k→src.kids[j]?=some b→¬ (b.kind=a.kind∧b.name=a.name))∧i - x'.toNat < i - (((k:Nat):Int)).toNat) Qx Qr):=by
     intro Qx Qr hn
     rw [Ce (by omega)]
     refine ⟨_,rfl,⟨k+1,by omega,by omega,fun j b' hj hb'=>?_⟩,by omega⟩
     rcases Nat.lt_or_ge j k with h | h
     · exact hno j b' h hb'
     · obtain rfl:j=k:=by omega
       rw [hb] at hb';cases hb';exact hn
   by_cases h1:b.kind=a.kind
   · rw [Ac h1]
     by_cases h2:b.name=a.name
     · rw [Ac h2,J0 src hd]
       refine ⟨_,rfl,_,rfl,?_⟩
       unfold Ik
       have hm:b∈src.kids.take i:=by
         refine List.mem_of_getElem? (i:=k) ?_
         rw [List.getElem?_take,if_pos (by omega)]
         exact hb
       rw [Ac hk,Ac ⟨b,hm,h1,h2⟩]
     · rw [Ab h2];exact next fun k=>h2 k.2
   · rw [Ab h1];exact next fun k=>h1 k.1
 · rw [Ab hlt]
   obtain rfl:k=i:=by omega
   refine ⟨_,rfl,?_⟩
   have hex:¬ ∃ b∈src.kids.take k,b.kind=a.kind∧b.name=a.name:=by
     rintro ⟨b,hb,h⟩
     obtain ⟨j,hj⟩:=List.getElem?_of_mem hb
     rw [List.getElem?_take] at hj
     split at hj
     · rename_i hjk;exact hno j b hjk hj h
     · cases hj
   show Sp (cond (Kt 32 ((Bi a.kind (src.kids.take k):Nat):Int)) _ _) _
   unfold Ik
   rw [acJ,Ac hk,Ab hex]
   by_cases h3:32≤Bi a.kind (src.kids.take k)
   · rw [Ac (by omega),Ac h3,J0 src hd]
     exact ⟨_,rfl,rfl⟩
   rw [Ab (by omega),Ab h3]
   rw [J0 src hd,Ye]
   simp only [Option.bind_some,BH]
   have h0:cap ds []=ds:=Ew hd
   by_cases k3:a.kind=3
   · rw [Ac k3]
     by_cases h4:a.unit=Ak
     · rw [Ac h4,Ac ⟨k3,.inl h4⟩];exact ⟨_,rfl,rfl⟩
     rw [Ab h4]
     by_cases h5:a.n=4
     · rw [Ac h5,Ab (fun q=>q.2.elim h4 fun r=>r.1 h5),h0];exact ⟨_,rfl,rfl⟩
     rw [Ab h5]
     by_cases h6:a.unit≠Ak∧a.unit≠AF∧a.unit≠BM
     · rw [Ac h6,Ab (fun q=>q.2.elim h4 fun r=>r.2 ((RV hu).2 h6)),h0];exact ⟨_,rfl,rfl⟩
     · rw [Ab h6,Ac ⟨k3,.inr ⟨h5,fun q=>h6 ((RV hu).1 q)⟩⟩];exact ⟨_,rfl,rfl⟩
   · rw [Ab k3,Ab (fun q=>k3 q.1),h0];exact ⟨_,rfl,rfl⟩
theorem rI (k:Int) (b:List Nd) (a:Nd):Bi k (b++[a])=Bi k b+Bi k [a]:=Mj k b [a]
theorem WJ {src:Nd} (hl:src.kids.length < 9223372036854775807) (hi:∀ a∈src.kids,FW a):∀ {l b:List Nd} {ds:List Dg},src.kids=b++l→ds.length≤20 →
   AL (fun i y x=>Gj src i y x.1 x.2.1 x.2.2) (fun x=>x.2.2) l b.length (((Bi 2 b:Nat):Int),((Bi 3 b:Nat):Int),ds)=(some (.inl (cap ds (Fs b l))):Option (List Dg⊕List Dg))
 | [],b,ds,_,hd=>by rw [AL,Fs,Ew hd]
 | a::l,b,ds,he,hd=>by
   have hlen:src.kids.length=b.length+(l.length+1):=by rw [he];simp
   have hat:src.kids[b.length]?=some a:=by rw [he];simp
   have htk:src.kids.take b.length=b:=by rw [he];simp
   have hc2:=Jg 2 b
   have hc3:=Jg 3 b
   have ih:=fun ds (h:ds.length≤20)=>WJ hl hi (l:=l) (b:=b++[a]) (ds:=ds) (by rw [he];simp) h
   rw [AL,Gj,Fs]
   simp only [HN]
   simp only [List.length_append,List.length_singleton,rI] at ih
   rcases VM (hi a (by rw [he];simp)) with k | k | k
   · obtain ⟨_,q2,_⟩:=(it2 k).1 (hi a (by rw [he];simp))
     have:=aD (ds:=ds) (by omega) hat (.inl k) (Vs q2) hd
     rw [k,htk] at this
     rw [Ac k,this]
     simp only [Option.bind_some]
     rw [Ce (by omega)]
     show AL _ _ l (b.length+1) _=_
     have h2:Bi 2 [a]=1:=by simp [Bi,k]
     have h3:Bi 3 [a]=0:=by simp [Bi,k]
     rw [h2,h3] at ih
     have:=ih (cap ds (Ik b a)) (Ev _ _)
     rw [EW] at this
     exact this
   · obtain ⟨_,q2,_⟩:=(it3 k).1 (hi a (by rw [he];simp))
     have:=aD (ds:=ds) (by omega) hat (.inr k) (Vs q2) hd
     rw [k,htk] at this
     rw [Ab (by omega),Ac k,this]
     simp only [Option.bind_some]
     rw [Ce (by omega)]
     show AL _ _ l (b.length+1) _=_
     have h2:Bi 2 [a]=0:=by simp [Bi,k]
     have h3:Bi 3 [a]=1:=by simp [Bi,k]
     rw [h2,h3] at ih
     have:=ih (cap ds (Ik b a)) (Ev _ _)
     rw [EW] at this
     exact this
   · rw [Ab (by omega),Ab (by omega)]
     show AL _ _ l (b.length+1) _=_
     have h2:Bi 2 [a]=0:=by simp [Bi,k]
     have h3:Bi 3 [a]=0:=by simp [Bi,k]
     rw [h2,h3] at ih
     have hz:Ik b a=[]:=by unfold Ik;rw [Ab (by omega)]
     rw [hz,List.nil_append]
     exact ih ds hd
theorem pH {src a:Nd} {c:Nat} {ds:List Dg} (hl:src.kids.length≤9223372036854775807) (hd:ds.length≤20):Ep ⟨src,ds⟩ a ((c:Nat):Int)=some ((),cap ds (Gw src c a)):=by
 obtain ⟨nd,h1,h2⟩:=RI hl 3 a.name
 obtain ⟨md,h3,h4⟩:=YN hl a.n
 rw [Ep,h1,h3]
 simp only [Option.bind_some,J0 src hd,acJ,BH,Nc,h4]
 unfold Gw
 by_cases h5:60≤c
 · rw [Ac (by omega),Ac h5]
 rw [Ab (by omega),Ab h5]
 by_cases h6:fU 3 src.kids a.name=none
 · rw [Ab (fun k=>k h6),Ac h6]
 rw [Ac h6,Ab h6]
 by_cases h7:(fA src.kids a.n).getD eS=a.name
 · rw [Ac h7,Ab (fun k=>k h7),Ew hd]
 · rw [Ab h7,Ac h7]
theorem ZA {src k:Nd} {w:ByteArray} {ds:List Dg} (hl:src.kids.length≤9223372036854775807) (he:Lv k) (hs:DG k≤2000) (hd:ds.length≤20):Dt ⟨src,ds⟩ k w=some ((),cap ds (OK src w k)):=by
 rw [Dt,nP hl he hs hd]
 simp only [Option.bind_some,Nc,J0 src (Ev ds (IM src k).2),EW]
 unfold OK
 have h0:cap ds ((IM src k).2++[])=cap ds (IM src k).2:=by rw [List.append_nil]
 by_cases h1:(IM src k).1=eS
 · rw [Ac h1,Ab (fun q=>q.1 h1),h0]
 rw [Ab h1]
 by_cases h2:w=eS
 · rw [Ac h2,Ab (fun q=>q.2.1 h2),h0]
 rw [Ab h2]
 by_cases h3:(IM src k).1=w
 · rw [Ac h3,Ab (fun q=>q.2.2 h3),h0]
 · rw [Ab h3,Ac ⟨h1,h2,h3⟩]
theorem Oe {src a:Nd} {c:Cq} (hc:c.src=src) (hl:src.kids.length≤9223372036854775807):∀ {l:List Nd} {i:Nat} {ds:List Dg},ds.length≤20→AL (fun i y x=>Dv c a i y x) (fun x=>x) l i ds=(some (.inl (cap ds (l.flatMap (FH src a)))):Option (List Dg⊕(Unit×List Dg)))
 | [],i,ds,h=>by rw [AL,List.flatMap_nil,Ew h]
 | k::l,i,ds,h=>by
   obtain ⟨md,h3,h4⟩:=YN hl k.n
   rw [AL,Dv,hc,h3,J0 src h,J0 src h]
   simp only [Option.bind_some,HN,BH]
   rw [List.flatMap_cons,← EW]
   unfold FH
   by_cases h5:k.n=a.n
   · rw [Ac h5,Ac h5];exact Oe hc hl (Ev _ _)
   rw [Ab h5,Ab h5]
   by_cases h6:fA src.kids k.n=none
   · rw [Ab (fun q=>q h6),Ac h6];exact Oe hc hl (Ev _ _)
   · rw [Ac h6,Ab h6,Ew h];exact Oe hc hl h
theorem aT {src a x:Nd} (hl:src.kids.length≤9223372036854775807) (hc:B0 x) (hs:DG x≤2000) (h68:x.kind=6∨x.kind=7∨x.kind=8) {ds:List Dg} (hd:ds.length≤20):DS ⟨src,ds⟩ a x=some ((),cap ds (FI src a x)):=by
 have hsz:=B6 x
 have hkl:=FG x.kids
 rw [DS]
 simp only [HN]
 unfold FI
 rcases h68 with k | k | k
 · obtain ⟨h1,h2⟩:=hc.2.2 (by omega)
   match hx:x.kids,h1 with
   | [y],_ =>
     rw [hx] at h2 hsz
     have hy:=EY (l:=[y]) (k:=y) (by simp)
     rw [Ac k,Ab (by omega),Ac k]
     simp only [List.getElem?_cons_zero,Option.bind_some,ZA hl (h2 y (by simp)) (by omega) hd,List.flatMap_cons,List.flatMap_nil,List.append_nil]
 · rw [Ab (by omega),Ab (by omega),Ac k,Ac k,Fy (by omega),List.drop_zero,Oe rfl hl hd]
   rfl
 · obtain ⟨h1,h2⟩:=hc.2.2 (by omega)
   obtain ⟨nd,h3,h4⟩:=RI hl 3 a.name
   match hx:x.kids,h1 with
   | [y],_ =>
     rw [hx] at h2 hsz
     have hy:=EY (l:=[y]) (k:=y) (by simp)
     rw [Ab (by omega),Ac k,Ab (by omega),Ab (by omega),h3]
     simp only [List.getElem?_cons_zero,Option.bind_some,ZA hl (h2 y (by simp)) (by omega) hd,h4,List.flatMap_cons,List.flatMap_nil,List.append_nil]
     rfl
theorem SB {src a:Nd} (hl:src.kids.length≤9223372036854775807):∀ {l:List Nd} {i:Nat} {ds:List Dg},(∀ x∈l,B0 x∧DG x≤2000∧(x.kind=6∨x.kind=7∨x.kind=8))→ds.length≤20→AL (fun i y x=>Hz src a i y x) (fun x=>x) l i ds=(some (.inl (cap ds (l.flatMap (FI src a)))):Option (List Dg⊕List Dg))
 | [],i,ds,_,h=>by rw [AL,List.flatMap_nil,Ew h]
 | x::l,i,ds,hx,h=>by
   obtain ⟨h1,h2,h3⟩:=hx x (by simp)
   rw [AL,Hz,aT hl h1 h2 h3 h,List.flatMap_cons,← EW]
   exact SB hl (fun y hy=>hx y (by simp [hy])) (Ev _ _)
theorem VA {src:Nd} (hl:src.kids.length≤9223372036854775807):∀ {l:List Nd} {i c:Nat} {ds:List Dg},(∀ a∈l,FW a∧DG a≤2000)→c+l.length < 9223372036854775807→ds.length≤20 →
   AL (fun i y x=>Fx src i y x.1 x.2) (fun x=>x.2) l i (((c:Nat):Int),ds)=(some (.inl (cap ds (Ju src c l))):Option (List Dg⊕List Dg))
 | [],i,c,ds,_,_,h=>by rw [AL,Ju,Ew h]
 | a::l,i,c,ds,ha,hc,h=>by
   simp only [List.length_cons] at hc
   obtain ⟨h1,h2⟩:=ha a (by simp)
   rw [AL,Fx,Ju,HN]
   unfold T7
   by_cases k:a.kind=4
   · rw [Ac k,Ac k,pH hl h]
     simp only [Option.bind_some]
     obtain ⟨_,_,_,h0,cs,e,q1,_,_,q4,q5⟩:=(sF k).1 h1
     have hsz:=B6 a
     have hkl:=FG a.kids
     rw [Fy (by omega)]
     have hcl:=SB hl (a:=a) (l:=a.kids.drop 1) (i:=1) (ds:=cap ds (Gw src c a)) (fun x hx=>by
       have hm:x∈cs:=by rw [e] at hx;exact hx
       have hm2:x∈a.kids:=by rw [e];exact List.mem_cons_of_mem _ hm
       have:=EY hm2
       have hk:=q1 x hm
       exact ⟨q5 x hm,by omega,by omega⟩) (Ev _ _)
     rw [hcl,EW]
     have h4:Bi 4 [a]=1:=by simp [Bi,k]
     show AL _ _ l (i+1) (BW ((c:Nat):Int) 1,_)=_
     rw [Ce (by omega),h4]
     have:=VA hl (l:=l) (i:=i+1) (c:=c+1) (ds:=cap ds (Gw src c a++a.kids.tail.flatMap (FI src a))) (fun y hy=>ha y (by simp [hy])) (by omega) (Ev _ _)
     rw [EW] at this
     rw [List.drop_one]
     exact this
   · rw [Ab k,Ab k,List.nil_append]
     have h4:Bi 4 [a]=0:=by simp [Bi,k]
     rw [h4]
     exact VA hl (l:=l) (i:=i+1) (c:=c) (ds:=ds) (fun y hy=>ha y (by simp [hy])) (by omega) h
theorem pL {src:Nd} (hs:FM src):Ib src=some (G2 src):=by
 rw [Ib,dH hs]
 simp only [Option.bind_some,BH]
 unfold G2
 by_cases v1:src.kind=1∧Rb src
 rotate_left
 · rw [Ab v1,Ab v1]
 rw [Ac v1,Ac v1]
 obtain ⟨_,hit,hsz0,_⟩:=jJ v1.2 v1.1
 have hsz:=B6 src
 have hkl:=FG src.kids
 have h1:=WJ (src:=src) (by omega) hit (l:=src.kids) (b:=[]) (ds:=[]) rfl (by simp)
 rw [Fy (by omega),List.drop_zero]
 have h1':AL (fun i y x=>Gj src i y x.1 x.2.1 x.2.2) (fun x=>x.2.2) src.kids 0 (0,0,[])=(some (.inl (cap [] (Fs [] src.kids))):Option (List Dg⊕List Dg)):=h1
 rw [h1']
 show (GW src.kids.length (AL (fun i y x=>Fx src i y x.1 x.2) (fun x=>x.2) (src.kids.drop 0) 0 (0,cap [] (Fs [] src.kids)))).bind _=_
 have h2:=VA (src:=src) (by omega) (l:=src.kids) (i:=0) (c:=0) (ds:=cap [] (Fs [] src.kids)) (fun a ha=>⟨hit a ha,by have:=EY ha;omega⟩) (by omega) (Ev _ _)
 rw [Fy (by omega),List.drop_zero]
 have h2':AL (fun i y x=>Fx src i y x.1 x.2) (fun x=>x.2) src.kids 0 (0,cap [] (Fs [] src.kids))=(some (.inl (cap (cap [] (Fs [] src.kids)) (Ju src 0 src.kids))):Option (List Dg⊕List Dg)):=h2
 rw [h2',EW]
 rfl
end Mo
end Go.Proofs.YtnijkdknnmgoeaaGreat
namespace Go.Proofs.YtnijkdknnmgoeaaGreat
open AI
def Ai (s:List UInt8):AV:=.sc (.string ⟨s.toArray⟩)
def aaV (n:Nat):Bool:=(match Nat.ble 97 n with | true=>Nat.ble n 122 | false=>false)
def zF (n:Nat):Bool:=(match Nat.ble 65 n with | true=>Nat.ble n 90 | false=>false)
def aaI (n:Nat):Bool:=(match Nat.ble 48 n with | true=>Nat.ble n 57 | false=>false)
def Nf (n:Nat):Bool:=(match aaV n with | true=>true | false=>(match zF n with | true=>true | false=>(match aaI n with | true=>true | false=>Nat.beq n 95)))
def gS (n:Nat):Bool:=(match Nat.beq n 32 with | true=>true | false=>(match Nat.beq n 9 with | true=>true | false=>(match Nat.beq n 10 with | true=>true | false=>Nat.beq n 13)))
def sM (lo up di wo wh:Nat) (f n:Nat) (s:AS):Option (CR×AS) :=
 match Nat.ble n 255 with
 | false=>none
 | true=>match Nat.beq f wo with
   | true=>some (.ret (.sc (.bool (Nf n))),s)
   | false=>match Nat.beq f lo with
     | true=>some (.ret (.sc (.bool (aaV n))),s)
     | false=>match Nat.beq f up with
       | true=>some (.ret (.sc (.bool (zF n))),s)
       | false=>match Nat.beq f di with
         | true=>some (.ret (.sc (.bool (aaI n))),s)
         | false=>match Nat.beq f wh with
           | true=>some (.ret (.sc (.bool (gS n))),s)
           | false=>none
def aab (lo up di wo wh:Nat) (f:Nat) (s:AS):List AV→Option (CR×AS)
 | [.sc (.int .u8 (.ofNat n))]=>sM lo up di wo wh f n s
 | _=>none
namespace Hd
def H:Mn:=fun _ _=>none
def X0:Q6:=fun _ _ _=>none
theorem zI:W7 Tryz.prog G (XP X0) H:=⟨mixed,(fun _ _ _ _ _ h=>by cases h),(fun _ _ _ _ _ h=>by cases h)⟩
def PI (f:Nat) (p:Nat→Bool) (n:Nat):B5:=⟨f,[.sc (.int .u8 (.ofNat n))],none,.sc (.bool (p n))⟩
noncomputable def Lw (m f:Nat) (p:Nat→Bool) (k:Nat):Bool:=Nat.rec (motive:=fun _=>Bool) true (fun n ih=>Bool.rec (motive:=fun _=>Bool) false ih (So (PI f p n) (sT Tryz.prog G X0 H m (KD (PI f p n))))) k
theorem iY {m f:Nat} {p:Nat→Bool} {k:Nat} (h:Lw m f p k=true):∀ n,n < k→So (PI f p n) (sT Tryz.prog G X0 H m (KD (PI f p n)))=true:=by
 induction k with
 | zero=>intro n hn;omega
 | succ k ih =>
   intro n hn
   have hk:Bool.rec (motive:=fun _=>Bool) false (Lw m f p k) (So (PI f p k) (sT Tryz.prog G X0 H m (KD (PI f p k))))=true:=h
   cases hr:So (PI f p k) (sT Tryz.prog G X0 H m (KD (PI f p k))) with
   | false=>rw [hr] at hk;cases hk
   | true =>
     rw [hr] at hk
     by_cases e:n=k
     · subst e;exact hr
     · exact ih hk n (by omega)
theorem P8 {m f:Nat} {p:Nat→Bool} (h:Lw m f p 256=true) (n:Nat) (hn:n < 256) (s:AS):Sound Tryz.prog G (.call f [.sc (.int .u8 (.ofNat n))] s (.ret (.sc (.bool (p n)))) s) :=
 jG (e:=PI f p n) zI Aa rfl (iY h n hn) s
theorem zN:Lw 1000 141 aaV 256=true:=by kernel_rfl
theorem zE:Lw 1000 148 zF 256=true:=by kernel_rfl
theorem xT:Lw 1000 143 aaI 256=true:=by kernel_rfl
theorem pJ:Lw 1000 202 Nf 256=true:=by kernel_rfl
theorem kA:Lw 1000 174 gS 256=true:=by kernel_rfl
def X (l:List B5):Q6:=fun f args s=>match aab 141 148 143 202 174 f s args with
 | some r=>some r
 | none=>find f args s l
theorem vH {f:Nat} {args:List AV} {s s':AS} {r:CR} (h:aab 141 148 143 202 174 f s args=some (r,s')):Sound Tryz.prog G (.call f args s r s'):=by
 unfold aab at h
 split at h
 · rename_i n
   unfold sM at h
   split at h
   · cases h
   · rename_i hn
     have hn':n < 256:=Nat.lt_succ_of_le (Nat.le_of_ble_eq_true hn)
     split at h
     · rename_i hf;cases h;rw [beq_true hf];exact P8 pJ n hn' _
     · split at h
       · rename_i hf;cases h;rw [beq_true hf];exact P8 zN n hn' _
       · split at h
         · rename_i hf;cases h;rw [beq_true hf];exact P8 zE n hn' _
         · split at h
           · rename_i hf;cases h;rw [beq_true hf];exact P8 xT n hn' _
           · split at h
             · rename_i hf;cases h;rw [beq_true hf];exact P8 kA n hn' _
             · cases h
 · cases h
theorem acW {l:List B5} (hl:∀ e∈l,AA Tryz.prog G e):W7 Tryz.prog G (XP (X l)) H:=by
 refine ⟨mixed,fun f args s r s' h=>?_,fun _ _ _ _ _ h=>by cases h⟩
 have h':X l f args s=some (r,s'):=h
 unfold X at h'
 split at h'
 · rename_i q hq;cases h';exact vH hq
 · exact mD hl h'
theorem none:∀ e∈([]:List B5),AA Tryz.prog G e:=fun e he=>by cases he
theorem entry {e:B5} {l:List B5} {m:Nat} (hl:∀ e∈l,AA Tryz.prog G e) (hp:Sx e=true) (h:So e (sT Tryz.prog G (X l) H m (KD e))=true):AA Tryz.prog G e:=jG (acW hl) Aa hp h
end Hd
end Go.Proofs.YtnijkdknnmgoeaaGreat
namespace Go.Proofs.YtnijkdknnmgoeaaGreat
open AI
set_option maxRecDepth 100000
set_option maxHeartbeats 4000000
def k0:AV:=Ai [102,97,99,116,32,97,32,58,32,110,117,109,98,101,114,59,32,108,105,110,101,32,108,32,58,32,69,85,82,32,101,97,114,110,59,32,97,114,116,105,99,108,101,32,49,32,102,111,114,32,108,32,114,97,110,107,32,48,32,102,114,111,109,32,50,48,50,52,45,48,49,45,48,49,32,107,110,111,119,110,32,50,48,50,52,45,48,49,45,48,49,32,123,32,119,104,101,110,32,97,32,33,61,32,51,59,32,97,109,111,117,110,116,32,69,85,82,32,49,46,48,48,32,42,32,97,59,32,125,32,97,114,116,105,99,108,101,32,50,32,102,111,114,32,108,32,114,97,110,107,32,48,32,102,114,111,109,32,50,48,50,52,45,48,49,45,48,49,32,116,111,32,50,48,50,53,45,48,49,45,48,49,32,107,110,111,119,110,32,50,48,50,52,45,48,49,45,48,49,32,123,32,119,104,101,110,32,119,101,101,107,100,97,121,32,61,61,32,49,59,32,119,104,101,110,32,97,32,33,61,32,51,59,32,97,109,111,117,110,116,32,97,114,116,32,51,59,32,125,32,97,114,116,105,99,108,101,32,51,32,102,111,114,32,108,32,114,97,110,107,32,48,32,102,114,111,109,32,50,48,50,52,45,48,49,45,48,49,32,107,110,111,119,110,32,50,48,50,52,45,48,50,45,48,49,32,123,32,117,110,108,101,115,115,32,49,59,32,97,109,111,117,110,116,32,69,85,82,32,48,46,48,48,59,32,125]
def k1:AV:=Ai [50,48,50,52,45,48,49,45,48,49]
def k2:AV:=Ai [119,101,101,107,100,97,121]
def k3:AV:=Ai [97,114,116,105,99,108,101]
def k4:AV:=Ai [50,48,50,53,45,48,49,45,48,49]
def k5:AV:=Ai [50,48,50,52,45,48,50,45,48,49]
def k6:AV:=.sl .lost 81 [(.sc (.int .i64 (.ofNat 1))),(Ai [102,97,99,116]),(.sc (.int .i64 (.ofNat 0))),(.sc (.int .i64 (.ofNat 1))),(Ai [97]),(.sc (.int .i64 (.ofNat 5))),(.sc (.int .i64 (.ofNat 6))),(Ai [58]),(.sc (.int .i64 (.ofNat 7))),(.sc (.int .i64 (.ofNat 1))),(Ai [110,117,109,98,101,114]),(.sc (.int .i64 (.ofNat 9))),(.sc (.int .i64 (.ofNat 6))),(Ai [59]),(.sc (.int .i64 (.ofNat 15))),(.sc (.int .i64 (.ofNat 1))),(Ai [108,105,110,101]),(.sc (.int .i64 (.ofNat 17))),(.sc (.int .i64 (.ofNat 1))),(Ai [108]),(.sc (.int .i64 (.ofNat 22))),(.sc (.int .i64 (.ofNat 6))),(Ai [58]),(.sc (.int .i64 (.ofNat 24))),(.sc (.int .i64 (.ofNat 2))),(Ai [69,85,82]),(.sc (.int .i64 (.ofNat 26))),(.sc (.int .i64 (.ofNat 1))),(Ai [101,97,114,110]),(.sc (.int .i64 (.ofNat 30))),(.sc (.int .i64 (.ofNat 6))),(Ai [59]),(.sc (.int .i64 (.ofNat 34))),(.sc (.int .i64 (.ofNat 1))),k3,(.sc (.int .i64 (.ofNat 36))),(.sc (.int .i64 (.ofNat 3))),(Ai [49]),(.sc (.int .i64 (.ofNat 44))),(.sc (.int .i64 (.ofNat 1))),(Ai [102,111,114]),(.sc (.int .i64 (.ofNat 46))),(.sc (.int .i64 (.ofNat 1))),(Ai [108]),(.sc (.int .i64 (.ofNat 50))),(.sc (.int .i64 (.ofNat 1))),(Ai [114,97,110,107]),(.sc (.int .i64 (.ofNat 52))),(.sc (.int .i64 (.ofNat 3))),(Ai [48]),(.sc (.int .i64 (.ofNat 57))),(.sc (.int .i64 (.ofNat 1))),(Ai [102,114,111,109]),(.sc (.int .i64 (.ofNat 59))),(.sc (.int .i64 (.ofNat 5))),k1,(.sc (.int .i64 (.ofNat 64))),(.sc (.int .i64 (.ofNat 1))),(Ai [107,110,111,119,110]),(.sc (.int .i64 (.ofNat 75))),(.sc (.int .i64 (.ofNat 5))),k1,(.sc (.int .i64 (.ofNat 81))),(.sc (.int .i64 (.ofNat 6))),(Ai [123]),(.sc (.int .i64 (.ofNat 92))),(.sc (.int .i64 (.ofNat 1))),(Ai [119,104,101,110]),(.sc (.int .i64 (.ofNat 94))),(.sc (.int .i64 (.ofNat 1))),(Ai [97]),(.sc (.int .i64 (.ofNat 99))),(.sc (.int .i64 (.ofNat 6))),(Ai [33,61]),(.sc (.int .i64 (.ofNat 101))),(.sc (.int .i64 (.ofNat 3))),(Ai [51]),(.sc (.int .i64 (.ofNat 104))),(.sc (.int .i64 (.ofNat 6))),(Ai [59]),(.sc (.int .i64 (.ofNat 105))),(.sc (.int .i64 (.ofNat 1))),(Ai [97,109,111,117,110,116]),(.sc (.int .i64 (.ofNat 107))),(.sc (.int .i64 (.ofNat 2))),(Ai [69,85,82]),(.sc (.int .i64 (.ofNat 114))),(.sc (.int .i64 (.ofNat 4))),(Ai [49,46,48,48]),(.sc (.int .i64 (.ofNat 118))),(.sc (.int .i64 (.ofNat 6))),(Ai [42]),(.sc (.int .i64 (.ofNat 123))),(.sc (.int .i64 (.ofNat 1))),(Ai [97]),(.sc (.int .i64 (.ofNat 125))),(.sc (.int .i64 (.ofNat 6))),(Ai [59]),(.sc (.int .i64 (.ofNat 126))),(.sc (.int .i64 (.ofNat 6))),(Ai [125]),(.sc (.int .i64 (.ofNat 128))),(.sc (.int .i64 (.ofNat 1))),k3,(.sc (.int .i64 (.ofNat 130))),(.sc (.int .i64 (.ofNat 3))),(Ai [50]),(.sc (.int .i64 (.ofNat 138))),(.sc (.int .i64 (.ofNat 1))),(Ai [102,111,114]),(.sc (.int .i64 (.ofNat 140))),(.sc (.int .i64 (.ofNat 1))),(Ai [108]),(.sc (.int .i64 (.ofNat 144))),(.sc (.int .i64 (.ofNat 1))),(Ai [114,97,110,107]),(.sc (.int .i64 (.ofNat 146))),(.sc (.int .i64 (.ofNat 3))),(Ai [48]),(.sc (.int .i64 (.ofNat 151))),(.sc (.int .i64 (.ofNat 1))),(Ai [102,114,111,109]),(.sc (.int .i64 (.ofNat 153))),(.sc (.int .i64 (.ofNat 5))),k1,(.sc (.int .i64 (.ofNat 158))),(.sc (.int .i64 (.ofNat 1))),(Ai [116,111]),(.sc (.int .i64 (.ofNat 169))),(.sc (.int .i64 (.ofNat 5))),k4,(.sc (.int .i64 (.ofNat 172))),(.sc (.int .i64 (.ofNat 1))),(Ai [107,110,111,119,110]),(.sc (.int .i64 (.ofNat 183))),(.sc (.int .i64 (.ofNat 5))),k1,(.sc (.int .i64 (.ofNat 189))),(.sc (.int .i64 (.ofNat 6))),(Ai [123]),(.sc (.int .i64 (.ofNat 200))),(.sc (.int .i64 (.ofNat 1))),(Ai [119,104,101,110]),(.sc (.int .i64 (.ofNat 202))),(.sc (.int .i64 (.ofNat 1))),k2,(.sc (.int .i64 (.ofNat 207))),(.sc (.int .i64 (.ofNat 6))),(Ai [61,61]),(.sc (.int .i64 (.ofNat 215))),(.sc (.int .i64 (.ofNat 3))),(Ai [49]),(.sc (.int .i64 (.ofNat 218))),(.sc (.int .i64 (.ofNat 6))),(Ai [59]),(.sc (.int .i64 (.ofNat 219))),(.sc (.int .i64 (.ofNat 1))),(Ai [119,104,101,110]),(.sc (.int .i64 (.ofNat 221))),(.sc (.int .i64 (.ofNat 1))),(Ai [97]),(.sc (.int .i64 (.ofNat 226))),(.sc (.int .i64 (.ofNat 6))),(Ai [33,61]),(.sc (.int .i64 (.ofNat 228))),(.sc (.int .i64 (.ofNat 3))),(Ai [51]),(.sc (.int .i64 (.ofNat 231))),(.sc (.int .i64 (.ofNat 6))),(Ai [59]),(.sc (.int .i64 (.ofNat 232))),(.sc (.int .i64 (.ofNat 1))),(Ai [97,109,111,117,110,116]),(.sc (.int .i64 (.ofNat 234))),(.sc (.int .i64 (.ofNat 1))),(Ai [97,114,116]),(.sc (.int .i64 (.ofNat 241))),(.sc (.int .i64 (.ofNat 3))),(Ai [51]),(.sc (.int .i64 (.ofNat 245))),(.sc (.int .i64 (.ofNat 6))),(Ai [59]),(.sc (.int .i64 (.ofNat 246))),(.sc (.int .i64 (.ofNat 6))),(Ai [125]),(.sc (.int .i64 (.ofNat 248))),(.sc (.int .i64 (.ofNat 1))),k3,(.sc (.int .i64 (.ofNat 250))),(.sc (.int .i64 (.ofNat 3))),(Ai [51]),(.sc (.int .i64 (.ofNat 258))),(.sc (.int .i64 (.ofNat 1))),(Ai [102,111,114]),(.sc (.int .i64 (.ofNat 260))),(.sc (.int .i64 (.ofNat 1))),(Ai [108]),(.sc (.int .i64 (.ofNat 264))),(.sc (.int .i64 (.ofNat 1))),(Ai [114,97,110,107]),(.sc (.int .i64 (.ofNat 266))),(.sc (.int .i64 (.ofNat 3))),(Ai [48]),(.sc (.int .i64 (.ofNat 271))),(.sc (.int .i64 (.ofNat 1))),(Ai [102,114,111,109]),(.sc (.int .i64 (.ofNat 273))),(.sc (.int .i64 (.ofNat 5))),k1,(.sc (.int .i64 (.ofNat 278))),(.sc (.int .i64 (.ofNat 1))),(Ai [107,110,111,119,110]),(.sc (.int .i64 (.ofNat 289))),(.sc (.int .i64 (.ofNat 5))),k5,(.sc (.int .i64 (.ofNat 295))),(.sc (.int .i64 (.ofNat 6))),(Ai [123]),(.sc (.int .i64 (.ofNat 306))),(.sc (.int .i64 (.ofNat 1))),(Ai [117,110,108,101,115,115]),(.sc (.int .i64 (.ofNat 308))),(.sc (.int .i64 (.ofNat 3))),(Ai [49]),(.sc (.int .i64 (.ofNat 315))),(.sc (.int .i64 (.ofNat 6))),(Ai [59]),(.sc (.int .i64 (.ofNat 316))),(.sc (.int .i64 (.ofNat 1))),(Ai [97,109,111,117,110,116]),(.sc (.int .i64 (.ofNat 318))),(.sc (.int .i64 (.ofNat 2))),(Ai [69,85,82]),(.sc (.int .i64 (.ofNat 325))),(.sc (.int .i64 (.ofNat 4))),(Ai [48,46,48,48]),(.sc (.int .i64 (.ofNat 329))),(.sc (.int .i64 (.ofNat 6))),(Ai [59]),(.sc (.int .i64 (.ofNat 333))),(.sc (.int .i64 (.ofNat 6))),(Ai [125]),(.sc (.int .i64 (.ofNat 335)))]
def e0:B5:=⟨152,[k0,(.sc (.int .i64 (.ofNat 0)))],none,(.Bd [(.agg [(.sc (.int .i64 (.ofNat 1))),(Ai [102,97,99,116]),(.sc (.int .i64 (.ofNat 0)))]),(.sc (.bool true))])⟩
theorem ac8:AA Tryz.prog Hd.G e0:=Hd.entry (l:=[]) (m:=1000000) Hd.none (by kernel_rfl) (by kernel_rfl)
def e1:B5:=⟨152,[k0,(.sc (.int .i64 (.ofNat 15)))],none,(.Bd [(.agg [(.sc (.int .i64 (.ofNat 6))),(Ai [59]),(.sc (.int .i64 (.ofNat 15)))]),(.sc (.bool true))])⟩
theorem acr:AA Tryz.prog Hd.G e1:=Hd.entry (l:=[]) (m:=1000000) Hd.none (by kernel_rfl) (by kernel_rfl)
def e2:B5:=⟨152,[k0,(.sc (.int .i64 (.ofNat 26)))],none,(.Bd [(.agg [(.sc (.int .i64 (.ofNat 2))),(Ai [69,85,82]),(.sc (.int .i64 (.ofNat 26)))]),(.sc (.bool true))])⟩
theorem aco:AA Tryz.prog Hd.G e2:=Hd.entry (l:=[]) (m:=1000000) Hd.none (by kernel_rfl) (by kernel_rfl)
def e3:B5:=⟨152,[k0,(.sc (.int .i64 (.ofNat 44)))],none,(.Bd [(.agg [(.sc (.int .i64 (.ofNat 3))),(Ai [49]),(.sc (.int .i64 (.ofNat 44)))]),(.sc (.bool true))])⟩
theorem acg:AA Tryz.prog Hd.G e3:=Hd.entry (l:=[]) (m:=1000000) Hd.none (by kernel_rfl) (by kernel_rfl)
def e4:B5:=⟨152,[k0,(.sc (.int .i64 (.ofNat 57)))],none,(.Bd [(.agg [(.sc (.int .i64 (.ofNat 3))),(Ai [48]),(.sc (.int .i64 (.ofNat 57)))]),(.sc (.bool true))])⟩
theorem acb:AA Tryz.prog Hd.G e4:=Hd.entry (l:=[]) (m:=1000000) Hd.none (by kernel_rfl) (by kernel_rfl)
def e5:B5:=⟨152,[k0,(.sc (.int .i64 (.ofNat 81)))],none,(.Bd [(.agg [(.sc (.int .i64 (.ofNat 5))),k1,(.sc (.int .i64 (.ofNat 81)))]),(.sc (.bool true))])⟩
theorem acZ:AA Tryz.prog Hd.G e5:=Hd.entry (l:=[]) (m:=1000000) Hd.none (by kernel_rfl) (by kernel_rfl)
def e6:B5:=⟨152,[k0,(.sc (.int .i64 (.ofNat 101)))],none,(.Bd [(.agg [(.sc (.int .i64 (.ofNat 6))),(Ai [33,61]),(.sc (.int .i64 (.ofNat 101)))]),(.sc (.bool true))])⟩
theorem abr:AA Tryz.prog Hd.G e6:=Hd.entry (l:=[]) (m:=1000000) Hd.none (by kernel_rfl) (by kernel_rfl)
def e7:B5:=⟨152,[k0,(.sc (.int .i64 (.ofNat 114)))],none,(.Bd [(.agg [(.sc (.int .i64 (.ofNat 2))),(Ai [69,85,82]),(.sc (.int .i64 (.ofNat 114)))]),(.sc (.bool true))])⟩
theorem adq:AA Tryz.prog Hd.G e7:=Hd.entry (l:=[]) (m:=1000000) Hd.none (by kernel_rfl) (by kernel_rfl)
def e8:B5:=⟨152,[k0,(.sc (.int .i64 (.ofNat 126)))],none,(.Bd [(.agg [(.sc (.int .i64 (.ofNat 6))),(Ai [59]),(.sc (.int .i64 (.ofNat 126)))]),(.sc (.bool true))])⟩
theorem abh:AA Tryz.prog Hd.G e8:=Hd.entry (l:=[]) (m:=1000000) Hd.none (by kernel_rfl) (by kernel_rfl)
def e9:B5:=⟨152,[k0,(.sc (.int .i64 (.ofNat 140)))],none,(.Bd [(.agg [(.sc (.int .i64 (.ofNat 1))),(Ai [102,111,114]),(.sc (.int .i64 (.ofNat 140)))]),(.sc (.bool true))])⟩
theorem adh:AA Tryz.prog Hd.G e9:=Hd.entry (l:=[]) (m:=1000000) Hd.none (by kernel_rfl) (by kernel_rfl)
def e10:B5:=⟨152,[k0,(.sc (.int .i64 (.ofNat 153)))],none,(.Bd [(.agg [(.sc (.int .i64 (.ofNat 1))),(Ai [102,114,111,109]),(.sc (.int .i64 (.ofNat 153)))]),(.sc (.bool true))])⟩
theorem yT:AA Tryz.prog Hd.G e10:=Hd.entry (l:=[]) (m:=1000000) Hd.none (by kernel_rfl) (by kernel_rfl)
def e11:B5:=⟨152,[k0,(.sc (.int .i64 (.ofNat 183)))],none,(.Bd [(.agg [(.sc (.int .i64 (.ofNat 1))),(Ai [107,110,111,119,110]),(.sc (.int .i64 (.ofNat 183)))]),(.sc (.bool true))])⟩
theorem zY:AA Tryz.prog Hd.G e11:=Hd.entry (l:=[]) (m:=1000000) Hd.none (by kernel_rfl) (by kernel_rfl)
def e12:B5:=⟨152,[k0,(.sc (.int .i64 (.ofNat 207)))],none,(.Bd [(.agg [(.sc (.int .i64 (.ofNat 1))),k2,(.sc (.int .i64 (.ofNat 207)))]),(.sc (.bool true))])⟩
theorem aae:AA Tryz.prog Hd.G e12:=Hd.entry (l:=[]) (m:=1000000) Hd.none (by kernel_rfl) (by kernel_rfl)
def e13:B5:=⟨152,[k0,(.sc (.int .i64 (.ofNat 221)))],none,(.Bd [(.agg [(.sc (.int .i64 (.ofNat 1))),(Ai [119,104,101,110]),(.sc (.int .i64 (.ofNat 221)))]),(.sc (.bool true))])⟩
theorem aac:AA Tryz.prog Hd.G e13:=Hd.entry (l:=[]) (m:=1000000) Hd.none (by kernel_rfl) (by kernel_rfl)
def e14:B5:=⟨152,[k0,(.sc (.int .i64 (.ofNat 232)))],none,(.Bd [(.agg [(.sc (.int .i64 (.ofNat 6))),(Ai [59]),(.sc (.int .i64 (.ofNat 232)))]),(.sc (.bool true))])⟩
theorem xR:AA Tryz.prog Hd.G e14:=Hd.entry (l:=[]) (m:=1000000) Hd.none (by kernel_rfl) (by kernel_rfl)
def e15:B5:=⟨152,[k0,(.sc (.int .i64 (.ofNat 246)))],none,(.Bd [(.agg [(.sc (.int .i64 (.ofNat 6))),(Ai [59]),(.sc (.int .i64 (.ofNat 246)))]),(.sc (.bool true))])⟩
theorem zC:AA Tryz.prog Hd.G e15:=Hd.entry (l:=[]) (m:=1000000) Hd.none (by kernel_rfl) (by kernel_rfl)
def e16:B5:=⟨152,[k0,(.sc (.int .i64 (.ofNat 260)))],none,(.Bd [(.agg [(.sc (.int .i64 (.ofNat 1))),(Ai [102,111,114]),(.sc (.int .i64 (.ofNat 260)))]),(.sc (.bool true))])⟩
theorem vD:AA Tryz.prog Hd.G e16:=Hd.entry (l:=[]) (m:=1000000) Hd.none (by kernel_rfl) (by kernel_rfl)
def e17:B5:=⟨152,[k0,(.sc (.int .i64 (.ofNat 273)))],none,(.Bd [(.agg [(.sc (.int .i64 (.ofNat 1))),(Ai [102,114,111,109]),(.sc (.int .i64 (.ofNat 273)))]),(.sc (.bool true))])⟩
theorem wF:AA Tryz.prog Hd.G e17:=Hd.entry (l:=[]) (m:=1000000) Hd.none (by kernel_rfl) (by kernel_rfl)
def e18:B5:=⟨152,[k0,(.sc (.int .i64 (.ofNat 306)))],none,(.Bd [(.agg [(.sc (.int .i64 (.ofNat 6))),(Ai [123]),(.sc (.int .i64 (.ofNat 306)))]),(.sc (.bool true))])⟩
theorem wJ:AA Tryz.prog Hd.G e18:=Hd.entry (l:=[]) (m:=1000000) Hd.none (by kernel_rfl) (by kernel_rfl)
def e19:B5:=⟨152,[k0,(.sc (.int .i64 (.ofNat 318)))],none,(.Bd [(.agg [(.sc (.int .i64 (.ofNat 1))),(Ai [97,109,111,117,110,116]),(.sc (.int .i64 (.ofNat 318)))]),(.sc (.bool true))])⟩
theorem aaz:AA Tryz.prog Hd.G e19:=Hd.entry (l:=[]) (m:=1000000) Hd.none (by kernel_rfl) (by kernel_rfl)
def e20:B5:=⟨152,[k0,(.sc (.int .i64 (.ofNat 335)))],none,(.Bd [(.agg [(.sc (.int .i64 (.ofNat 6))),(Ai [125]),(.sc (.int .i64 (.ofNat 335)))]),(.sc (.bool true))])⟩
theorem uS:AA Tryz.prog Hd.G e20:=Hd.entry (l:=[]) (m:=1000000) Hd.none (by kernel_rfl) (by kernel_rfl)
def e21:B5:=⟨152,[k0,(.sc (.int .i64 (.ofNat 5)))],none,(.Bd [(.agg [(.sc (.int .i64 (.ofNat 1))),(Ai [97]),(.sc (.int .i64 (.ofNat 5)))]),(.sc (.bool true))])⟩
theorem v9:AA Tryz.prog Hd.G e21:=Hd.entry (l:=[]) (m:=1000000) Hd.none (by kernel_rfl) (by kernel_rfl)
def e22:B5:=⟨152,[k0,(.sc (.int .i64 (.ofNat 17)))],none,(.Bd [(.agg [(.sc (.int .i64 (.ofNat 1))),(Ai [108,105,110,101]),(.sc (.int .i64 (.ofNat 17)))]),(.sc (.bool true))])⟩
theorem yC:AA Tryz.prog Hd.G e22:=Hd.entry (l:=[]) (m:=1000000) Hd.none (by kernel_rfl) (by kernel_rfl)
def e23:B5:=⟨152,[k0,(.sc (.int .i64 (.ofNat 30)))],none,(.Bd [(.agg [(.sc (.int .i64 (.ofNat 1))),(Ai [101,97,114,110]),(.sc (.int .i64 (.ofNat 30)))]),(.sc (.bool true))])⟩
theorem xG:AA Tryz.prog Hd.G e23:=Hd.entry (l:=[]) (m:=1000000) Hd.none (by kernel_rfl) (by kernel_rfl)
def e24:B5:=⟨152,[k0,(.sc (.int .i64 (.ofNat 46)))],none,(.Bd [(.agg [(.sc (.int .i64 (.ofNat 1))),(Ai [102,111,114]),(.sc (.int .i64 (.ofNat 46)))]),(.sc (.bool true))])⟩
theorem xA:AA Tryz.prog Hd.G e24:=Hd.entry (l:=[]) (m:=1000000) Hd.none (by kernel_rfl) (by kernel_rfl)
def e25:B5:=⟨152,[k0,(.sc (.int .i64 (.ofNat 59)))],none,(.Bd [(.agg [(.sc (.int .i64 (.ofNat 1))),(Ai [102,114,111,109]),(.sc (.int .i64 (.ofNat 59)))]),(.sc (.bool true))])⟩
theorem yH:AA Tryz.prog Hd.G e25:=Hd.entry (l:=[]) (m:=1000000) Hd.none (by kernel_rfl) (by kernel_rfl)
def e26:B5:=⟨152,[k0,(.sc (.int .i64 (.ofNat 92)))],none,(.Bd [(.agg [(.sc (.int .i64 (.ofNat 6))),(Ai [123]),(.sc (.int .i64 (.ofNat 92)))]),(.sc (.bool true))])⟩
theorem wH:AA Tryz.prog Hd.G e26:=Hd.entry (l:=[]) (m:=1000000) Hd.none (by kernel_rfl) (by kernel_rfl)
def e27:B5:=⟨152,[k0,(.sc (.int .i64 (.ofNat 104)))],none,(.Bd [(.agg [(.sc (.int .i64 (.ofNat 3))),(Ai [51]),(.sc (.int .i64 (.ofNat 104)))]),(.sc (.bool true))])⟩
theorem aas:AA Tryz.prog Hd.G e27:=Hd.entry (l:=[]) (m:=1000000) Hd.none (by kernel_rfl) (by kernel_rfl)
def e28:B5:=⟨152,[k0,(.sc (.int .i64 (.ofNat 118)))],none,(.Bd [(.agg [(.sc (.int .i64 (.ofNat 4))),(Ai [49,46,48,48]),(.sc (.int .i64 (.ofNat 118)))]),(.sc (.bool true))])⟩
theorem yO:AA Tryz.prog Hd.G e28:=Hd.entry (l:=[]) (m:=1000000) Hd.none (by kernel_rfl) (by kernel_rfl)
def e29:B5:=⟨152,[k0,(.sc (.int .i64 (.ofNat 128)))],none,(.Bd [(.agg [(.sc (.int .i64 (.ofNat 6))),(Ai [125]),(.sc (.int .i64 (.ofNat 128)))]),(.sc (.bool true))])⟩
theorem vM:AA Tryz.prog Hd.G e29:=Hd.entry (l:=[]) (m:=1000000) Hd.none (by kernel_rfl) (by kernel_rfl)
def e30:B5:=⟨152,[k0,(.sc (.int .i64 (.ofNat 144)))],none,(.Bd [(.agg [(.sc (.int .i64 (.ofNat 1))),(Ai [108]),(.sc (.int .i64 (.ofNat 144)))]),(.sc (.bool true))])⟩
theorem vQ:AA Tryz.prog Hd.G e30:=Hd.entry (l:=[]) (m:=1000000) Hd.none (by kernel_rfl) (by kernel_rfl)
def e31:B5:=⟨152,[k0,(.sc (.int .i64 (.ofNat 158)))],none,(.Bd [(.agg [(.sc (.int .i64 (.ofNat 5))),k1,(.sc (.int .i64 (.ofNat 158)))]),(.sc (.bool true))])⟩
theorem xB:AA Tryz.prog Hd.G e31:=Hd.entry (l:=[]) (m:=1000000) Hd.none (by kernel_rfl) (by kernel_rfl)
def e32:B5:=⟨152,[k0,(.sc (.int .i64 (.ofNat 189)))],none,(.Bd [(.agg [(.sc (.int .i64 (.ofNat 5))),k1,(.sc (.int .i64 (.ofNat 189)))]),(.sc (.bool true))])⟩
theorem aaX:AA Tryz.prog Hd.G e32:=Hd.entry (l:=[]) (m:=1000000) Hd.none (by kernel_rfl) (by kernel_rfl)
def e33:B5:=⟨152,[k0,(.sc (.int .i64 (.ofNat 215)))],none,(.Bd [(.agg [(.sc (.int .i64 (.ofNat 6))),(Ai [61,61]),(.sc (.int .i64 (.ofNat 215)))]),(.sc (.bool true))])⟩
theorem wW:AA Tryz.prog Hd.G e33:=Hd.entry (l:=[]) (m:=1000000) Hd.none (by kernel_rfl) (by kernel_rfl)
def e34:B5:=⟨152,[k0,(.sc (.int .i64 (.ofNat 226)))],none,(.Bd [(.agg [(.sc (.int .i64 (.ofNat 1))),(Ai [97]),(.sc (.int .i64 (.ofNat 226)))]),(.sc (.bool true))])⟩
theorem aam:AA Tryz.prog Hd.G e34:=Hd.entry (l:=[]) (m:=1000000) Hd.none (by kernel_rfl) (by kernel_rfl)
def e35:B5:=⟨152,[k0,(.sc (.int .i64 (.ofNat 234)))],none,(.Bd [(.agg [(.sc (.int .i64 (.ofNat 1))),(Ai [97,109,111,117,110,116]),(.sc (.int .i64 (.ofNat 234)))]),(.sc (.bool true))])⟩
theorem aaN:AA Tryz.prog Hd.G e35:=Hd.entry (l:=[]) (m:=1000000) Hd.none (by kernel_rfl) (by kernel_rfl)
def e36:B5:=⟨152,[k0,(.sc (.int .i64 (.ofNat 248)))],none,(.Bd [(.agg [(.sc (.int .i64 (.ofNat 6))),(Ai [125]),(.sc (.int .i64 (.ofNat 248)))]),(.sc (.bool true))])⟩
theorem xQ:AA Tryz.prog Hd.G e36:=Hd.entry (l:=[]) (m:=1000000) Hd.none (by kernel_rfl) (by kernel_rfl)
def e37:B5:=⟨152,[k0,(.sc (.int .i64 (.ofNat 264)))],none,(.Bd [(.agg [(.sc (.int .i64 (.ofNat 1))),(Ai [108]),(.sc (.int .i64 (.ofNat 264)))]),(.sc (.bool true))])⟩
theorem aaW:AA Tryz.prog Hd.G e37:=Hd.entry (l:=[]) (m:=1000000) Hd.none (by kernel_rfl) (by kernel_rfl)
def e38:B5:=⟨152,[k0,(.sc (.int .i64 (.ofNat 278)))],none,(.Bd [(.agg [(.sc (.int .i64 (.ofNat 5))),k1,(.sc (.int .i64 (.ofNat 278)))]),(.sc (.bool true))])⟩
theorem zO:AA Tryz.prog Hd.G e38:=Hd.entry (l:=[]) (m:=1000000) Hd.none (by kernel_rfl) (by kernel_rfl)
def e39:B5:=⟨152,[k0,(.sc (.int .i64 (.ofNat 308)))],none,(.Bd [(.agg [(.sc (.int .i64 (.ofNat 1))),(Ai [117,110,108,101,115,115]),(.sc (.int .i64 (.ofNat 308)))]),(.sc (.bool true))])⟩
theorem aaD:AA Tryz.prog Hd.G e39:=Hd.entry (l:=[]) (m:=1000000) Hd.none (by kernel_rfl) (by kernel_rfl)
def e40:B5:=⟨152,[k0,(.sc (.int .i64 (.ofNat 325)))],none,(.Bd [(.agg [(.sc (.int .i64 (.ofNat 2))),(Ai [69,85,82]),(.sc (.int .i64 (.ofNat 325)))]),(.sc (.bool true))])⟩
theorem uX:AA Tryz.prog Hd.G e40:=Hd.entry (l:=[]) (m:=1000000) Hd.none (by kernel_rfl) (by kernel_rfl)
def e41:B5:=⟨152,[k0,(.sc (.int .i64 (.ofNat 7)))],none,(.Bd [(.agg [(.sc (.int .i64 (.ofNat 6))),(Ai [58]),(.sc (.int .i64 (.ofNat 7)))]),(.sc (.bool true))])⟩
theorem wQ:AA Tryz.prog Hd.G e41:=Hd.entry (l:=[]) (m:=1000000) Hd.none (by kernel_rfl) (by kernel_rfl)
def e42:B5:=⟨152,[k0,(.sc (.int .i64 (.ofNat 22)))],none,(.Bd [(.agg [(.sc (.int .i64 (.ofNat 1))),(Ai [108]),(.sc (.int .i64 (.ofNat 22)))]),(.sc (.bool true))])⟩
theorem v8:AA Tryz.prog Hd.G e42:=Hd.entry (l:=[]) (m:=1000000) Hd.none (by kernel_rfl) (by kernel_rfl)
def e43:B5:=⟨152,[k0,(.sc (.int .i64 (.ofNat 34)))],none,(.Bd [(.agg [(.sc (.int .i64 (.ofNat 6))),(Ai [59]),(.sc (.int .i64 (.ofNat 34)))]),(.sc (.bool true))])⟩
theorem aaF:AA Tryz.prog Hd.G e43:=Hd.entry (l:=[]) (m:=1000000) Hd.none (by kernel_rfl) (by kernel_rfl)
def e44:B5:=⟨152,[k0,(.sc (.int .i64 (.ofNat 50)))],none,(.Bd [(.agg [(.sc (.int .i64 (.ofNat 1))),(Ai [108]),(.sc (.int .i64 (.ofNat 50)))]),(.sc (.bool true))])⟩
theorem zX:AA Tryz.prog Hd.G e44:=Hd.entry (l:=[]) (m:=1000000) Hd.none (by kernel_rfl) (by kernel_rfl)
def e45:B5:=⟨152,[k0,(.sc (.int .i64 (.ofNat 64)))],none,(.Bd [(.agg [(.sc (.int .i64 (.ofNat 5))),k1,(.sc (.int .i64 (.ofNat 64)))]),(.sc (.bool true))])⟩
theorem yK:AA Tryz.prog Hd.G e45:=Hd.entry (l:=[]) (m:=1000000) Hd.none (by kernel_rfl) (by kernel_rfl)
def e46:B5:=⟨152,[k0,(.sc (.int .i64 (.ofNat 94)))],none,(.Bd [(.agg [(.sc (.int .i64 (.ofNat 1))),(Ai [119,104,101,110]),(.sc (.int .i64 (.ofNat 94)))]),(.sc (.bool true))])⟩
theorem aaJ:AA Tryz.prog Hd.G e46:=Hd.entry (l:=[]) (m:=1000000) Hd.none (by kernel_rfl) (by kernel_rfl)
def e47:B5:=⟨152,[k0,(.sc (.int .i64 (.ofNat 105)))],none,(.Bd [(.agg [(.sc (.int .i64 (.ofNat 6))),(Ai [59]),(.sc (.int .i64 (.ofNat 105)))]),(.sc (.bool true))])⟩
theorem yJ:AA Tryz.prog Hd.G e47:=Hd.entry (l:=[]) (m:=1000000) Hd.none (by kernel_rfl) (by kernel_rfl)
def e48:B5:=⟨152,[k0,(.sc (.int .i64 (.ofNat 123)))],none,(.Bd [(.agg [(.sc (.int .i64 (.ofNat 6))),(Ai [42]),(.sc (.int .i64 (.ofNat 123)))]),(.sc (.bool true))])⟩
theorem zR:AA Tryz.prog Hd.G e48:=Hd.entry (l:=[]) (m:=1000000) Hd.none (by kernel_rfl) (by kernel_rfl)
def e49:B5:=⟨152,[k0,(.sc (.int .i64 (.ofNat 130)))],none,(.Bd [(.agg [(.sc (.int .i64 (.ofNat 1))),k3,(.sc (.int .i64 (.ofNat 130)))]),(.sc (.bool true))])⟩
theorem xM:AA Tryz.prog Hd.G e49:=Hd.entry (l:=[]) (m:=1000000) Hd.none (by kernel_rfl) (by kernel_rfl)
def e50:B5:=⟨152,[k0,(.sc (.int .i64 (.ofNat 146)))],none,(.Bd [(.agg [(.sc (.int .i64 (.ofNat 1))),(Ai [114,97,110,107]),(.sc (.int .i64 (.ofNat 146)))]),(.sc (.bool true))])⟩
theorem vZ:AA Tryz.prog Hd.G e50:=Hd.entry (l:=[]) (m:=1000000) Hd.none (by kernel_rfl) (by kernel_rfl)
def e51:B5:=⟨152,[k0,(.sc (.int .i64 (.ofNat 169)))],none,(.Bd [(.agg [(.sc (.int .i64 (.ofNat 1))),(Ai [116,111]),(.sc (.int .i64 (.ofNat 169)))]),(.sc (.bool true))])⟩
theorem aai:AA Tryz.prog Hd.G e51:=Hd.entry (l:=[]) (m:=1000000) Hd.none (by kernel_rfl) (by kernel_rfl)
def e52:B5:=⟨152,[k0,(.sc (.int .i64 (.ofNat 200)))],none,(.Bd [(.agg [(.sc (.int .i64 (.ofNat 6))),(Ai [123]),(.sc (.int .i64 (.ofNat 200)))]),(.sc (.bool true))])⟩
theorem aaY:AA Tryz.prog Hd.G e52:=Hd.entry (l:=[]) (m:=1000000) Hd.none (by kernel_rfl) (by kernel_rfl)
def e53:B5:=⟨152,[k0,(.sc (.int .i64 (.ofNat 218)))],none,(.Bd [(.agg [(.sc (.int .i64 (.ofNat 3))),(Ai [49]),(.sc (.int .i64 (.ofNat 218)))]),(.sc (.bool true))])⟩
theorem z8:AA Tryz.prog Hd.G e53:=Hd.entry (l:=[]) (m:=1000000) Hd.none (by kernel_rfl) (by kernel_rfl)
def e54:B5:=⟨152,[k0,(.sc (.int .i64 (.ofNat 228)))],none,(.Bd [(.agg [(.sc (.int .i64 (.ofNat 6))),(Ai [33,61]),(.sc (.int .i64 (.ofNat 228)))]),(.sc (.bool true))])⟩
theorem vO:AA Tryz.prog Hd.G e54:=Hd.entry (l:=[]) (m:=1000000) Hd.none (by kernel_rfl) (by kernel_rfl)
def e55:B5:=⟨152,[k0,(.sc (.int .i64 (.ofNat 241)))],none,(.Bd [(.agg [(.sc (.int .i64 (.ofNat 1))),(Ai [97,114,116]),(.sc (.int .i64 (.ofNat 241)))]),(.sc (.bool true))])⟩
theorem xJ:AA Tryz.prog Hd.G e55:=Hd.entry (l:=[]) (m:=1000000) Hd.none (by kernel_rfl) (by kernel_rfl)
def e56:B5:=⟨152,[k0,(.sc (.int .i64 (.ofNat 250)))],none,(.Bd [(.agg [(.sc (.int .i64 (.ofNat 1))),k3,(.sc (.int .i64 (.ofNat 250)))]),(.sc (.bool true))])⟩
theorem xX:AA Tryz.prog Hd.G e56:=Hd.entry (l:=[]) (m:=1000000) Hd.none (by kernel_rfl) (by kernel_rfl)
def e57:B5:=⟨152,[k0,(.sc (.int .i64 (.ofNat 266)))],none,(.Bd [(.agg [(.sc (.int .i64 (.ofNat 1))),(Ai [114,97,110,107]),(.sc (.int .i64 (.ofNat 266)))]),(.sc (.bool true))])⟩
theorem xE:AA Tryz.prog Hd.G e57:=Hd.entry (l:=[]) (m:=1000000) Hd.none (by kernel_rfl) (by kernel_rfl)
def e58:B5:=⟨152,[k0,(.sc (.int .i64 (.ofNat 289)))],none,(.Bd [(.agg [(.sc (.int .i64 (.ofNat 1))),(Ai [107,110,111,119,110]),(.sc (.int .i64 (.ofNat 289)))]),(.sc (.bool true))])⟩
theorem wU:AA Tryz.prog Hd.G e58:=Hd.entry (l:=[]) (m:=1000000) Hd.none (by kernel_rfl) (by kernel_rfl)
def e59:B5:=⟨152,[k0,(.sc (.int .i64 (.ofNat 315)))],none,(.Bd [(.agg [(.sc (.int .i64 (.ofNat 3))),(Ai [49]),(.sc (.int .i64 (.ofNat 315)))]),(.sc (.bool true))])⟩
theorem z7:AA Tryz.prog Hd.G e59:=Hd.entry (l:=[]) (m:=1000000) Hd.none (by kernel_rfl) (by kernel_rfl)
def e60:B5:=⟨152,[k0,(.sc (.int .i64 (.ofNat 329)))],none,(.Bd [(.agg [(.sc (.int .i64 (.ofNat 4))),(Ai [48,46,48,48]),(.sc (.int .i64 (.ofNat 329)))]),(.sc (.bool true))])⟩
theorem uG:AA Tryz.prog Hd.G e60:=Hd.entry (l:=[]) (m:=1000000) Hd.none (by kernel_rfl) (by kernel_rfl)
def e61:B5:=⟨152,[k0,(.sc (.int .i64 (.ofNat 9)))],none,(.Bd [(.agg [(.sc (.int .i64 (.ofNat 1))),(Ai [110,117,109,98,101,114]),(.sc (.int .i64 (.ofNat 9)))]),(.sc (.bool true))])⟩
theorem wS:AA Tryz.prog Hd.G e61:=Hd.entry (l:=[]) (m:=1000000) Hd.none (by kernel_rfl) (by kernel_rfl)
def e62:B5:=⟨152,[k0,(.sc (.int .i64 (.ofNat 24)))],none,(.Bd [(.agg [(.sc (.int .i64 (.ofNat 6))),(Ai [58]),(.sc (.int .i64 (.ofNat 24)))]),(.sc (.bool true))])⟩
theorem aaj:AA Tryz.prog Hd.G e62:=Hd.entry (l:=[]) (m:=1000000) Hd.none (by kernel_rfl) (by kernel_rfl)
def e63:B5:=⟨152,[k0,(.sc (.int .i64 (.ofNat 36)))],none,(.Bd [(.agg [(.sc (.int .i64 (.ofNat 1))),k3,(.sc (.int .i64 (.ofNat 36)))]),(.sc (.bool true))])⟩
theorem xU:AA Tryz.prog Hd.G e63:=Hd.entry (l:=[]) (m:=1000000) Hd.none (by kernel_rfl) (by kernel_rfl)
def e64:B5:=⟨152,[k0,(.sc (.int .i64 (.ofNat 52)))],none,(.Bd [(.agg [(.sc (.int .i64 (.ofNat 1))),(Ai [114,97,110,107]),(.sc (.int .i64 (.ofNat 52)))]),(.sc (.bool true))])⟩
theorem zV:AA Tryz.prog Hd.G e64:=Hd.entry (l:=[]) (m:=1000000) Hd.none (by kernel_rfl) (by kernel_rfl)
def e65:B5:=⟨152,[k0,(.sc (.int .i64 (.ofNat 75)))],none,(.Bd [(.agg [(.sc (.int .i64 (.ofNat 1))),(Ai [107,110,111,119,110]),(.sc (.int .i64 (.ofNat 75)))]),(.sc (.bool true))])⟩
theorem yI:AA Tryz.prog Hd.G e65:=Hd.entry (l:=[]) (m:=1000000) Hd.none (by kernel_rfl) (by kernel_rfl)
def e66:B5:=⟨152,[k0,(.sc (.int .i64 (.ofNat 99)))],none,(.Bd [(.agg [(.sc (.int .i64 (.ofNat 1))),(Ai [97]),(.sc (.int .i64 (.ofNat 99)))]),(.sc (.bool true))])⟩
theorem xH:AA Tryz.prog Hd.G e66:=Hd.entry (l:=[]) (m:=1000000) Hd.none (by kernel_rfl) (by kernel_rfl)
def e67:B5:=⟨152,[k0,(.sc (.int .i64 (.ofNat 107)))],none,(.Bd [(.agg [(.sc (.int .i64 (.ofNat 1))),(Ai [97,109,111,117,110,116]),(.sc (.int .i64 (.ofNat 107)))]),(.sc (.bool true))])⟩
theorem wG:AA Tryz.prog Hd.G e67:=Hd.entry (l:=[]) (m:=1000000) Hd.none (by kernel_rfl) (by kernel_rfl)
def e68:B5:=⟨152,[k0,(.sc (.int .i64 (.ofNat 125)))],none,(.Bd [(.agg [(.sc (.int .i64 (.ofNat 1))),(Ai [97]),(.sc (.int .i64 (.ofNat 125)))]),(.sc (.bool true))])⟩
theorem v7:AA Tryz.prog Hd.G e68:=Hd.entry (l:=[]) (m:=1000000) Hd.none (by kernel_rfl) (by kernel_rfl)
def e69:B5:=⟨152,[k0,(.sc (.int .i64 (.ofNat 138)))],none,(.Bd [(.agg [(.sc (.int .i64 (.ofNat 3))),(Ai [50]),(.sc (.int .i64 (.ofNat 138)))]),(.sc (.bool true))])⟩
theorem wT:AA Tryz.prog Hd.G e69:=Hd.entry (l:=[]) (m:=1000000) Hd.none (by kernel_rfl) (by kernel_rfl)
def e70:B5:=⟨152,[k0,(.sc (.int .i64 (.ofNat 151)))],none,(.Bd [(.agg [(.sc (.int .i64 (.ofNat 3))),(Ai [48]),(.sc (.int .i64 (.ofNat 151)))]),(.sc (.bool true))])⟩
theorem uI:AA Tryz.prog Hd.G e70:=Hd.entry (l:=[]) (m:=1000000) Hd.none (by kernel_rfl) (by kernel_rfl)
def e71:B5:=⟨152,[k0,(.sc (.int .i64 (.ofNat 172)))],none,(.Bd [(.agg [(.sc (.int .i64 (.ofNat 5))),k4,(.sc (.int .i64 (.ofNat 172)))]),(.sc (.bool true))])⟩
theorem w8:AA Tryz.prog Hd.G e71:=Hd.entry (l:=[]) (m:=1000000) Hd.none (by kernel_rfl) (by kernel_rfl)
def e72:B5:=⟨152,[k0,(.sc (.int .i64 (.ofNat 202)))],none,(.Bd [(.agg [(.sc (.int .i64 (.ofNat 1))),(Ai [119,104,101,110]),(.sc (.int .i64 (.ofNat 202)))]),(.sc (.bool true))])⟩
theorem uR:AA Tryz.prog Hd.G e72:=Hd.entry (l:=[]) (m:=1000000) Hd.none (by kernel_rfl) (by kernel_rfl)
def e73:B5:=⟨152,[k0,(.sc (.int .i64 (.ofNat 219)))],none,(.Bd [(.agg [(.sc (.int .i64 (.ofNat 6))),(Ai [59]),(.sc (.int .i64 (.ofNat 219)))]),(.sc (.bool true))])⟩
theorem vC:AA Tryz.prog Hd.G e73:=Hd.entry (l:=[]) (m:=1000000) Hd.none (by kernel_rfl) (by kernel_rfl)
def e74:B5:=⟨152,[k0,(.sc (.int .i64 (.ofNat 231)))],none,(.Bd [(.agg [(.sc (.int .i64 (.ofNat 3))),(Ai [51]),(.sc (.int .i64 (.ofNat 231)))]),(.sc (.bool true))])⟩
theorem uL:AA Tryz.prog Hd.G e74:=Hd.entry (l:=[]) (m:=1000000) Hd.none (by kernel_rfl) (by kernel_rfl)
def e75:B5:=⟨152,[k0,(.sc (.int .i64 (.ofNat 245)))],none,(.Bd [(.agg [(.sc (.int .i64 (.ofNat 3))),(Ai [51]),(.sc (.int .i64 (.ofNat 245)))]),(.sc (.bool true))])⟩
theorem aad:AA Tryz.prog Hd.G e75:=Hd.entry (l:=[]) (m:=1000000) Hd.none (by kernel_rfl) (by kernel_rfl)
def e76:B5:=⟨152,[k0,(.sc (.int .i64 (.ofNat 258)))],none,(.Bd [(.agg [(.sc (.int .i64 (.ofNat 3))),(Ai [51]),(.sc (.int .i64 (.ofNat 258)))]),(.sc (.bool true))])⟩
theorem uM:AA Tryz.prog Hd.G e76:=Hd.entry (l:=[]) (m:=1000000) Hd.none (by kernel_rfl) (by kernel_rfl)
def e77:B5:=⟨152,[k0,(.sc (.int .i64 (.ofNat 271)))],none,(.Bd [(.agg [(.sc (.int .i64 (.ofNat 3))),(Ai [48]),(.sc (.int .i64 (.ofNat 271)))]),(.sc (.bool true))])⟩
theorem aay:AA Tryz.prog Hd.G e77:=Hd.entry (l:=[]) (m:=1000000) Hd.none (by kernel_rfl) (by kernel_rfl)
def e78:B5:=⟨152,[k0,(.sc (.int .i64 (.ofNat 295)))],none,(.Bd [(.agg [(.sc (.int .i64 (.ofNat 5))),k5,(.sc (.int .i64 (.ofNat 295)))]),(.sc (.bool true))])⟩
theorem aag:AA Tryz.prog Hd.G e78:=Hd.entry (l:=[]) (m:=1000000) Hd.none (by kernel_rfl) (by kernel_rfl)
def e79:B5:=⟨152,[k0,(.sc (.int .i64 (.ofNat 316)))],none,(.Bd [(.agg [(.sc (.int .i64 (.ofNat 6))),(Ai [59]),(.sc (.int .i64 (.ofNat 316)))]),(.sc (.bool true))])⟩
theorem vL:AA Tryz.prog Hd.G e79:=Hd.entry (l:=[]) (m:=1000000) Hd.none (by kernel_rfl) (by kernel_rfl)
def e80:B5:=⟨152,[k0,(.sc (.int .i64 (.ofNat 333)))],none,(.Bd [(.agg [(.sc (.int .i64 (.ofNat 6))),(Ai [59]),(.sc (.int .i64 (.ofNat 333)))]),(.sc (.bool true))])⟩
theorem aan:AA Tryz.prog Hd.G e80:=Hd.entry (l:=[]) (m:=1000000) Hd.none (by kernel_rfl) (by kernel_rfl)
def e81:B5:=⟨115,[k0],none,(.Bd [k6,(.sc (.int .i64 (.ofNat 0))),(.sc (.int .i64 (.ofNat 0)))])⟩
theorem vU:AA Tryz.prog Hd.G e81:=Hd.entry (l:=[e0,e1,e2,e3,e4,e5,e6,e7,e8,e9,e10,e11,e12,e13,e14,e15,e16,e17,e18,e19,e20,e21,e22,e23,e24,e25,e26,e27,e28,e29,e30,e31,e32,e33,e34,e35,e36,e37,e38,e39,e40,e41,e42,e43,e44,e45,e46,e47,e48,e49,e50,e51,e52,e53,e54,e55,e56,e57,e58,e59,e60,e61,e62,e63,e64,e65,e66,e67,e68,e69,e70,e71,e72,e73,e74,e75,e76,e77,e78,e79,e80]) (m:=1000000) (Al.cons ac8 (Al.cons acr (Al.cons aco (Al.cons acg (Al.cons acb (Al.cons acZ (Al.cons abr (Al.cons adq (Al.cons abh (Al.cons adh (Al.cons yT (Al.cons zY (Al.cons aae (Al.cons aac (Al.cons xR (Al.cons zC (Al.cons vD (Al.cons wF (Al.cons wJ (Al.cons aaz (Al.cons uS (Al.cons v9 (Al.cons yC (Al.cons xG (Al.cons xA (Al.cons yH (Al.cons wH (Al.cons aas (Al.cons yO (Al.cons vM (Al.cons vQ (Al.cons xB (Al.cons aaX (Al.cons wW (Al.cons aam (Al.cons aaN (Al.cons xQ (Al.cons aaW (Al.cons zO (Al.cons aaD (Al.cons uX (Al.cons wQ (Al.cons v8 (Al.cons aaF (Al.cons zX (Al.cons yK (Al.cons aaJ (Al.cons yJ (Al.cons zR (Al.cons xM (Al.cons vZ (Al.cons aai (Al.cons aaY (Al.cons z8 (Al.cons vO (Al.cons xJ (Al.cons xX (Al.cons xE (Al.cons wU (Al.cons z7 (Al.cons uG (Al.cons wS (Al.cons aaj (Al.cons xU (Al.cons zV (Al.cons yI (Al.cons xH (Al.cons wG (Al.cons v7 (Al.cons wT (Al.cons uI (Al.cons w8 (Al.cons uR (Al.cons vC (Al.cons uL (Al.cons aad (Al.cons uM (Al.cons aay (Al.cons aag (Al.cons vL (Al.cons aan Hd.none))))))))))))))))))))))))))))))))))))))))))))))))))))))))))))))))))))))))))))))))) (by kernel_rfl) (by kernel_rfl)
end Go.Proofs.YtnijkdknnmgoeaaGreat
namespace Go.Proofs.YtnijkdknnmgoeaaGreat
open AI
set_option maxRecDepth 100000
set_option maxHeartbeats 4000000
def k7:AV:=Ai [109,105,110,117,116,101,115]
def k8:AV:=Ai [103,114,101,97,116,101,115,116]
def k9:AV:=.sl .full 33 [(Ai [102,97,99,116]),(Ai [108,105,110,101]),k3,(Ai [102,111,114]),(Ai [114,97,110,107]),(Ai [102,114,111,109]),(Ai [116,111]),(Ai [107,110,111,119,110]),(Ai [119,104,101,110]),(Ai [117,110,108,101,115,115]),(Ai [97,109,111,117,110,116]),(Ai [116,114,117,116,104]),(Ai [110,117,109,98,101,114]),k7,(Ai [109,105,110]),(Ai [101,97,114,110]),(Ai [100,101,100,117,99,116]),(Ai [102,108,111,111,114]),(Ai [105,110,102,111]),(Ai [111,114]),(Ai [97,110,100]),(Ai [110,111,116]),(Ai [97,116]),(Ai [116,114,117,101]),(Ai [102,97,108,115,101]),(Ai [97,114,116]),k2,(Ai [100,97,121]),(Ai [109,111,110,116,104]),(Ai [121,101,97,114]),(Ai [108,101,97,115,116]),k8,(Ai [116,97,98,108,101])]
def k10:AV:=.sl .full 2 [(.sc (.int .i64 (.ofNat 12))),(Ai [97]),(Ai []),(.sc (.int .i64 (.ofNat 0))),(.sc (.int .i64 (.ofNat 0))),(.sc (.int .i64 (.ofNat 0))),(.sc (.int .i64 (.ofNat 0))),(.sc (.int .i64 (.ofNat 0))),(.sl .full 0 []),(.sl .full 0 []),(.sc (.int .i64 (.ofNat 99))),(.sc (.int .i64 (.ofNat 11))),(Ai []),(Ai [110,117,109,98,101,114]),(.sc (.int .i64 (.ofNat 3))),(.sc (.int .i64 (.ofNat 0))),(.sc (.int .i64 (.ofNat 0))),(.sc (.int .i64 (.ofNat 0))),(.sc (.int .i64 (.ofNat 0))),(.sl .full 0 []),(.sl .full 0 []),(.sc (.int .i64 (.ofNat 104)))]
def lE:AV:=.sl .full 2 [(.sc (.int .i64 (.ofNat 11))),(Ai []),(Ai [69,85,82]),(.sc (.int .i64 (.ofNat 100))),(.sc (.int .i64 (.ofNat 0))),(.sc (.int .i64 (.ofNat 0))),(.sc (.int .i64 (.ofNat 0))),(.sc (.int .i64 (.ofNat 0))),(.sl .full 0 []),(.sl .full 0 []),(.sc (.int .i64 (.ofNat 114))),(.sc (.int .i64 (.ofNat 12))),(Ai [97]),(Ai []),(.sc (.int .i64 (.ofNat 0))),(.sc (.int .i64 (.ofNat 0))),(.sc (.int .i64 (.ofNat 0))),(.sc (.int .i64 (.ofNat 0))),(.sc (.int .i64 (.ofNat 0))),(.sl .full 0 []),(.sl .full 0 []),(.sc (.int .i64 (.ofNat 125)))]
def lD:AV:=.sl .full 1 [(.sc (.int .i64 (.ofNat 16))),(Ai [33,61]),(Ai []),(.sc (.int .i64 (.ofNat 0))),(.sc (.int .i64 (.ofNat 0))),(.sc (.int .i64 (.ofNat 0))),(.sc (.int .i64 (.ofNat 0))),(.sc (.int .i64 (.ofNat 0))),(.sl .full 0 []),k10,(.sc (.int .i64 (.ofNat 99)))]
def lJ:AV:=.sl .full 1 [(.sc (.int .i64 (.ofNat 16))),(Ai [42]),(Ai []),(.sc (.int .i64 (.ofNat 0))),(.sc (.int .i64 (.ofNat 0))),(.sc (.int .i64 (.ofNat 0))),(.sc (.int .i64 (.ofNat 0))),(.sc (.int .i64 (.ofNat 0))),(.sl .full 0 []),lE,(.sc (.int .i64 (.ofNat 114)))]
def rQ:AV:=.sl .lost 2 [(.sc (.int .i64 (.ofNat 6))),(Ai []),(Ai []),(.sc (.int .i64 (.ofNat 0))),(.sc (.int .i64 (.ofNat 0))),(.sc (.int .i64 (.ofNat 0))),(.sc (.int .i64 (.ofNat 0))),(.sc (.int .i64 (.ofNat 0))),(.sl .full 0 []),lD,(.sc (.int .i64 (.ofNat 94))),(.sc (.int .i64 (.ofNat 8))),(Ai []),(Ai []),(.sc (.int .i64 (.ofNat 0))),(.sc (.int .i64 (.ofNat 0))),(.sc (.int .i64 (.ofNat 0))),(.sc (.int .i64 (.ofNat 0))),(.sc (.int .i64 (.ofNat 0))),(.sl .full 0 []),lJ,(.sc (.int .i64 (.ofNat 107)))]
def gH:AV:=.sl .lost 3 [(.sc (.int .i64 (.ofNat 5))),(Ai []),(Ai []),(.sc (.int .i64 (.ofNat 0))),(.sc (.int .i64 (.ofNat 8766))),(.sc (.int .i64 (.ofNat 36525))),(.sc (.int .i64 (.ofNat 8766))),(.sc (.int .i64 (.ofNat 0))),(.sl .full 0 []),(.sl .full 0 []),(.sc (.int .i64 (.ofNat 52))),(.sc (.int .i64 (.ofNat 6))),(Ai []),(Ai []),(.sc (.int .i64 (.ofNat 0))),(.sc (.int .i64 (.ofNat 0))),(.sc (.int .i64 (.ofNat 0))),(.sc (.int .i64 (.ofNat 0))),(.sc (.int .i64 (.ofNat 0))),(.sl .full 0 []),lD,(.sc (.int .i64 (.ofNat 94))),(.sc (.int .i64 (.ofNat 8))),(Ai []),(Ai []),(.sc (.int .i64 (.ofNat 0))),(.sc (.int .i64 (.ofNat 0))),(.sc (.int .i64 (.ofNat 0))),(.sc (.int .i64 (.ofNat 0))),(.sc (.int .i64 (.ofNat 0))),(.sl .full 0 []),lJ,(.sc (.int .i64 (.ofNat 107)))]
def YC:B5:=⟨104,[k9,(Ai [97])],none,(.sc (.bool false))⟩
theorem Jn:AA Tryz.prog Hd.G YC:=Hd.entry (l:=[]) (m:=1000000) Hd.none (by kernel_rfl) (by kernel_rfl)
def e83:B5:=⟨117,[],(some ([k6,(.sc (.int .i64 (.ofNat 0))),(.sc (.int .i64 (.ofNat 336))),(.sc (.int .i64 (.ofNat 0))),(.sc (.int .i64 (.ofNat 0)))],[k6,(.sc (.int .i64 (.ofNat 5))),(.sc (.int .i64 (.ofNat 336))),(.sc (.int .i64 (.ofNat 0))),(.sc (.int .i64 (.ofNat 0)))])),(.agg [(.sc (.int .i64 (.ofNat 2))),(Ai [97]),(Ai [110,117,109,98,101,114]),(.sc (.int .i64 (.ofNat 0))),(.sc (.int .i64 (.ofNat 0))),(.sc (.int .i64 (.ofNat 0))),(.sc (.int .i64 (.ofNat 0))),(.sc (.int .i64 (.ofNat 0))),(.sl .full 0 []),(.sl .full 0 []),(.sc (.int .i64 (.ofNat 0)))])⟩
theorem aal:AA Tryz.prog Hd.G e83:=Hd.entry (l:=[YC]) (m:=1000000) (Al.cons Jn Hd.none) (by kernel_rfl) (by kernel_rfl)
def ZL:B5:=⟨104,[k9,(Ai [108])],none,(.sc (.bool false))⟩
theorem JA:AA Tryz.prog Hd.G ZL:=Hd.entry (l:=[]) (m:=1000000) Hd.none (by kernel_rfl) (by kernel_rfl)
def e85:B5:=⟨117,[],(some ([k6,(.sc (.int .i64 (.ofNat 5))),(.sc (.int .i64 (.ofNat 336))),(.sc (.int .i64 (.ofNat 0))),(.sc (.int .i64 (.ofNat 0)))],[k6,(.sc (.int .i64 (.ofNat 11))),(.sc (.int .i64 (.ofNat 336))),(.sc (.int .i64 (.ofNat 0))),(.sc (.int .i64 (.ofNat 0)))])),(.agg [(.sc (.int .i64 (.ofNat 3))),(Ai [108]),(Ai [69,85,82]),(.sc (.int .i64 (.ofNat 1))),(.sc (.int .i64 (.ofNat 0))),(.sc (.int .i64 (.ofNat 0))),(.sc (.int .i64 (.ofNat 0))),(.sc (.int .i64 (.ofNat 0))),(.sl .full 0 []),(.sl .full 0 []),(.sc (.int .i64 (.ofNat 17)))])⟩
theorem yY:AA Tryz.prog Hd.G e85:=Hd.entry (l:=[YC,ZL]) (m:=1000000) (Al.cons Jn (Al.cons JA Hd.none)) (by kernel_rfl) (by kernel_rfl)
def lF:B5:=⟨199,[k1],none,(.Bd [(.sc (.int .i64 (.ofNat 8766))),(.sc (.int .i64 (.ofNat 0)))])⟩
theorem M0:AA Tryz.prog Hd.G lF:=Hd.entry (l:=[]) (m:=1000000) Hd.none (by kernel_rfl) (by kernel_rfl)
def e87:B5:=⟨159,[],(some ([k6,(.sc (.int .i64 (.ofNat 15))),(.sc (.int .i64 (.ofNat 336))),(.sc (.int .i64 (.ofNat 0))),(.sc (.int .i64 (.ofNat 0)))],[k6,(.sc (.int .i64 (.ofNat 21))),(.sc (.int .i64 (.ofNat 336))),(.sc (.int .i64 (.ofNat 0))),(.sc (.int .i64 (.ofNat 0)))])),(.agg [(.sc (.int .i64 (.ofNat 5))),(Ai []),(Ai []),(.sc (.int .i64 (.ofNat 0))),(.sc (.int .i64 (.ofNat 8766))),(.sc (.int .i64 (.ofNat 36525))),(.sc (.int .i64 (.ofNat 8766))),(.sc (.int .i64 (.ofNat 0))),(.sl .full 0 []),(.sl .full 0 []),(.sc (.int .i64 (.ofNat 52)))])⟩
theorem XZ:AA Tryz.prog Hd.G e87:=Hd.entry (l:=[lF]) (m:=1000000) (Al.cons M0 Hd.none) (by kernel_rfl) (by kernel_rfl)
def e88:B5:=⟨187,[],(some ([k6,(.sc (.int .i64 (.ofNat 23))),(.sc (.int .i64 (.ofNat 336))),(.sc (.int .i64 (.ofNat 0))),(.sc (.int .i64 (.ofNat 0)))],[k6,(.sc (.int .i64 (.ofNat 26))),(.sc (.int .i64 (.ofNat 336))),(.sc (.int .i64 (.ofNat 0))),(.sc (.int .i64 (.ofNat 0)))])),(.agg [(.sc (.int .i64 (.ofNat 16))),(Ai [33,61]),(Ai []),(.sc (.int .i64 (.ofNat 0))),(.sc (.int .i64 (.ofNat 0))),(.sc (.int .i64 (.ofNat 0))),(.sc (.int .i64 (.ofNat 0))),(.sc (.int .i64 (.ofNat 0))),(.sl .full 0 []),k10,(.sc (.int .i64 (.ofNat 99)))])⟩
theorem Yg:AA Tryz.prog Hd.G e88:=Hd.entry (l:=[YC,ZL]) (m:=1000000) (Al.cons Jn (Al.cons JA Hd.none)) (by kernel_rfl) (by kernel_rfl)
def e89:B5:=⟨187,[],(some ([k6,(.sc (.int .i64 (.ofNat 28))),(.sc (.int .i64 (.ofNat 336))),(.sc (.int .i64 (.ofNat 0))),(.sc (.int .i64 (.ofNat 0)))],[k6,(.sc (.int .i64 (.ofNat 32))),(.sc (.int .i64 (.ofNat 336))),(.sc (.int .i64 (.ofNat 0))),(.sc (.int .i64 (.ofNat 0)))])),(.agg [(.sc (.int .i64 (.ofNat 16))),(Ai [42]),(Ai []),(.sc (.int .i64 (.ofNat 0))),(.sc (.int .i64 (.ofNat 0))),(.sc (.int .i64 (.ofNat 0))),(.sc (.int .i64 (.ofNat 0))),(.sc (.int .i64 (.ofNat 0))),(.sl .full 0 []),lE,(.sc (.int .i64 (.ofNat 114)))])⟩
theorem Yn:AA Tryz.prog Hd.G e89:=Hd.entry (l:=[YC,ZL]) (m:=1000000) (Al.cons Jn (Al.cons JA Hd.none)) (by kernel_rfl) (by kernel_rfl)
def e90:B5:=⟨160,[],(some ([k6,(.sc (.int .i64 (.ofNat 21))),(.sc (.int .i64 (.ofNat 336))),(.sc (.int .i64 (.ofNat 0))),(.sc (.int .i64 (.ofNat 0)))],[k6,(.sc (.int .i64 (.ofNat 34))),(.sc (.int .i64 (.ofNat 336))),(.sc (.int .i64 (.ofNat 0))),(.sc (.int .i64 (.ofNat 0)))])),rQ⟩
theorem YU:AA Tryz.prog Hd.G e90:=Hd.entry (l:=[e88,e89]) (m:=1000000) (Al.cons Yg (Al.cons Yn Hd.none)) (by kernel_rfl) (by kernel_rfl)
def e91:B5:=⟨117,[],(some ([k6,(.sc (.int .i64 (.ofNat 11))),(.sc (.int .i64 (.ofNat 336))),(.sc (.int .i64 (.ofNat 0))),(.sc (.int .i64 (.ofNat 0)))],[k6,(.sc (.int .i64 (.ofNat 34))),(.sc (.int .i64 (.ofNat 336))),(.sc (.int .i64 (.ofNat 0))),(.sc (.int .i64 (.ofNat 0)))])),(.agg [(.sc (.int .i64 (.ofNat 4))),(Ai [108]),(Ai []),(.sc (.int .i64 (.ofNat 1))),(.sc (.int .i64 (.ofNat 0))),(.sc (.int .i64 (.ofNat 0))),(.sc (.int .i64 (.ofNat 0))),(.sc (.int .i64 (.ofNat 0))),(.sl .full 0 []),gH,(.sc (.int .i64 (.ofNat 36)))])⟩
theorem vE:AA Tryz.prog Hd.G e91:=Hd.entry (l:=[YC,ZL,lF,e87,e90]) (m:=1000000) (Al.cons Jn (Al.cons JA (Al.cons M0 (Al.cons XZ (Al.cons YU Hd.none))))) (by kernel_rfl) (by kernel_rfl)
def tF:B5:=⟨199,[k4],none,(.Bd [(.sc (.int .i64 (.ofNat 9132))),(.sc (.int .i64 (.ofNat 0)))])⟩
theorem O4:AA Tryz.prog Hd.G tF:=Hd.entry (l:=[]) (m:=1000000) Hd.none (by kernel_rfl) (by kernel_rfl)
end Go.Proofs.YtnijkdknnmgoeaaGreat
namespace Go.Proofs.YtnijkdknnmgoeaaGreat
open AI
set_option maxRecDepth 100000
set_option maxHeartbeats 4000000
def dO:AV:=.sl .full 2 [(.sc (.int .i64 (.ofNat 14))),k2,(Ai []),(.sc (.int .i64 (.ofNat 0))),(.sc (.int .i64 (.ofNat 0))),(.sc (.int .i64 (.ofNat 0))),(.sc (.int .i64 (.ofNat 0))),(.sc (.int .i64 (.ofNat 0))),(.sl .full 0 []),(.sl .full 0 []),(.sc (.int .i64 (.ofNat 207))),(.sc (.int .i64 (.ofNat 11))),(Ai []),(Ai [110,117,109,98,101,114]),(.sc (.int .i64 (.ofNat 1))),(.sc (.int .i64 (.ofNat 0))),(.sc (.int .i64 (.ofNat 0))),(.sc (.int .i64 (.ofNat 0))),(.sc (.int .i64 (.ofNat 0))),(.sl .full 0 []),(.sl .full 0 []),(.sc (.int .i64 (.ofNat 218)))]
def lO:AV:=.sl .full 2 [(.sc (.int .i64 (.ofNat 12))),(Ai [97]),(Ai []),(.sc (.int .i64 (.ofNat 0))),(.sc (.int .i64 (.ofNat 0))),(.sc (.int .i64 (.ofNat 0))),(.sc (.int .i64 (.ofNat 0))),(.sc (.int .i64 (.ofNat 0))),(.sl .full 0 []),(.sl .full 0 []),(.sc (.int .i64 (.ofNat 226))),(.sc (.int .i64 (.ofNat 11))),(Ai []),(Ai [110,117,109,98,101,114]),(.sc (.int .i64 (.ofNat 3))),(.sc (.int .i64 (.ofNat 0))),(.sc (.int .i64 (.ofNat 0))),(.sc (.int .i64 (.ofNat 0))),(.sc (.int .i64 (.ofNat 0))),(.sl .full 0 []),(.sl .full 0 []),(.sc (.int .i64 (.ofNat 231)))]
def lP:AV:=.sl .full 1 [(.sc (.int .i64 (.ofNat 16))),(Ai [61,61]),(Ai []),(.sc (.int .i64 (.ofNat 0))),(.sc (.int .i64 (.ofNat 0))),(.sc (.int .i64 (.ofNat 0))),(.sc (.int .i64 (.ofNat 0))),(.sc (.int .i64 (.ofNat 0))),(.sl .full 0 []),dO,(.sc (.int .i64 (.ofNat 207)))]
def k19:AV:=.sl .full 1 [(.sc (.int .i64 (.ofNat 16))),(Ai [33,61]),(Ai []),(.sc (.int .i64 (.ofNat 0))),(.sc (.int .i64 (.ofNat 0))),(.sc (.int .i64 (.ofNat 0))),(.sc (.int .i64 (.ofNat 0))),(.sc (.int .i64 (.ofNat 0))),(.sl .full 0 []),lO,(.sc (.int .i64 (.ofNat 226)))]
def oX:AV:=.sl .full 1 [(.sc (.int .i64 (.ofNat 13))),(Ai []),(Ai []),(.sc (.int .i64 (.ofNat 3))),(.sc (.int .i64 (.ofNat 0))),(.sc (.int .i64 (.ofNat 0))),(.sc (.int .i64 (.ofNat 0))),(.sc (.int .i64 (.ofNat 0))),(.sl .full 0 []),(.sl .full 0 []),(.sc (.int .i64 (.ofNat 241)))]
def k21:AV:=.sl .lost 3 [(.sc (.int .i64 (.ofNat 6))),(Ai []),(Ai []),(.sc (.int .i64 (.ofNat 0))),(.sc (.int .i64 (.ofNat 0))),(.sc (.int .i64 (.ofNat 0))),(.sc (.int .i64 (.ofNat 0))),(.sc (.int .i64 (.ofNat 0))),(.sl .full 0 []),lP,(.sc (.int .i64 (.ofNat 202))),(.sc (.int .i64 (.ofNat 6))),(Ai []),(Ai []),(.sc (.int .i64 (.ofNat 0))),(.sc (.int .i64 (.ofNat 0))),(.sc (.int .i64 (.ofNat 0))),(.sc (.int .i64 (.ofNat 0))),(.sc (.int .i64 (.ofNat 0))),(.sl .full 0 []),k19,(.sc (.int .i64 (.ofNat 221))),(.sc (.int .i64 (.ofNat 8))),(Ai []),(Ai []),(.sc (.int .i64 (.ofNat 0))),(.sc (.int .i64 (.ofNat 0))),(.sc (.int .i64 (.ofNat 0))),(.sc (.int .i64 (.ofNat 0))),(.sc (.int .i64 (.ofNat 0))),(.sl .full 0 []),oX,(.sc (.int .i64 (.ofNat 234)))]
def k22:AV:=.sl .lost 4 [(.sc (.int .i64 (.ofNat 5))),(Ai []),(Ai []),(.sc (.int .i64 (.ofNat 0))),(.sc (.int .i64 (.ofNat 8766))),(.sc (.int .i64 (.ofNat 9132))),(.sc (.int .i64 (.ofNat 8766))),(.sc (.int .i64 (.ofNat 0))),(.sl .full 0 []),(.sl .full 0 []),(.sc (.int .i64 (.ofNat 146))),(.sc (.int .i64 (.ofNat 6))),(Ai []),(Ai []),(.sc (.int .i64 (.ofNat 0))),(.sc (.int .i64 (.ofNat 0))),(.sc (.int .i64 (.ofNat 0))),(.sc (.int .i64 (.ofNat 0))),(.sc (.int .i64 (.ofNat 0))),(.sl .full 0 []),lP,(.sc (.int .i64 (.ofNat 202))),(.sc (.int .i64 (.ofNat 6))),(Ai []),(Ai []),(.sc (.int .i64 (.ofNat 0))),(.sc (.int .i64 (.ofNat 0))),(.sc (.int .i64 (.ofNat 0))),(.sc (.int .i64 (.ofNat 0))),(.sc (.int .i64 (.ofNat 0))),(.sl .full 0 []),k19,(.sc (.int .i64 (.ofNat 221))),(.sc (.int .i64 (.ofNat 8))),(Ai []),(Ai []),(.sc (.int .i64 (.ofNat 0))),(.sc (.int .i64 (.ofNat 0))),(.sc (.int .i64 (.ofNat 0))),(.sc (.int .i64 (.ofNat 0))),(.sc (.int .i64 (.ofNat 0))),(.sl .full 0 []),oX,(.sc (.int .i64 (.ofNat 234)))]
def e93:B5:=⟨159,[],(some ([k6,(.sc (.int .i64 (.ofNat 38))),(.sc (.int .i64 (.ofNat 336))),(.sc (.int .i64 (.ofNat 0))),(.sc (.int .i64 (.ofNat 0)))],[k6,(.sc (.int .i64 (.ofNat 46))),(.sc (.int .i64 (.ofNat 336))),(.sc (.int .i64 (.ofNat 0))),(.sc (.int .i64 (.ofNat 0)))])),(.agg [(.sc (.int .i64 (.ofNat 5))),(Ai []),(Ai []),(.sc (.int .i64 (.ofNat 0))),(.sc (.int .i64 (.ofNat 8766))),(.sc (.int .i64 (.ofNat 9132))),(.sc (.int .i64 (.ofNat 8766))),(.sc (.int .i64 (.ofNat 0))),(.sl .full 0 []),(.sl .full 0 []),(.sc (.int .i64 (.ofNat 146)))])⟩
theorem kZ:AA Tryz.prog Hd.G e93:=Hd.entry (l:=[lF,tF]) (m:=1000000) (Al.cons M0 (Al.cons O4 Hd.none)) (by kernel_rfl) (by kernel_rfl)
def lK:B5:=⟨104,[k9,k2],none,(.sc (.bool true))⟩
theorem MN:AA Tryz.prog Hd.G lK:=Hd.entry (l:=[]) (m:=1000000) Hd.none (by kernel_rfl) (by kernel_rfl)
def e95:B5:=⟨187,[],(some ([k6,(.sc (.int .i64 (.ofNat 48))),(.sc (.int .i64 (.ofNat 336))),(.sc (.int .i64 (.ofNat 0))),(.sc (.int .i64 (.ofNat 0)))],[k6,(.sc (.int .i64 (.ofNat 51))),(.sc (.int .i64 (.ofNat 336))),(.sc (.int .i64 (.ofNat 0))),(.sc (.int .i64 (.ofNat 0)))])),(.agg [(.sc (.int .i64 (.ofNat 16))),(Ai [61,61]),(Ai []),(.sc (.int .i64 (.ofNat 0))),(.sc (.int .i64 (.ofNat 0))),(.sc (.int .i64 (.ofNat 0))),(.sc (.int .i64 (.ofNat 0))),(.sc (.int .i64 (.ofNat 0))),(.sl .full 0 []),dO,(.sc (.int .i64 (.ofNat 207)))])⟩
theorem gV:AA Tryz.prog Hd.G e95:=Hd.entry (l:=[YC,ZL,lK]) (m:=1000000) (Al.cons Jn (Al.cons JA (Al.cons MN Hd.none))) (by kernel_rfl) (by kernel_rfl)
def e96:B5:=⟨187,[],(some ([k6,(.sc (.int .i64 (.ofNat 53))),(.sc (.int .i64 (.ofNat 336))),(.sc (.int .i64 (.ofNat 0))),(.sc (.int .i64 (.ofNat 0)))],[k6,(.sc (.int .i64 (.ofNat 56))),(.sc (.int .i64 (.ofNat 336))),(.sc (.int .i64 (.ofNat 0))),(.sc (.int .i64 (.ofNat 0)))])),(.agg [(.sc (.int .i64 (.ofNat 16))),(Ai [33,61]),(Ai []),(.sc (.int .i64 (.ofNat 0))),(.sc (.int .i64 (.ofNat 0))),(.sc (.int .i64 (.ofNat 0))),(.sc (.int .i64 (.ofNat 0))),(.sc (.int .i64 (.ofNat 0))),(.sl .full 0 []),lO,(.sc (.int .i64 (.ofNat 226)))])⟩
theorem kS:AA Tryz.prog Hd.G e96:=Hd.entry (l:=[YC,ZL,lK]) (m:=1000000) (Al.cons Jn (Al.cons JA (Al.cons MN Hd.none))) (by kernel_rfl) (by kernel_rfl)
def s7:B5:=⟨104,[k9,(Ai [97,114,116])],none,(.sc (.bool true))⟩
theorem O3:AA Tryz.prog Hd.G s7:=Hd.entry (l:=[]) (m:=1000000) Hd.none (by kernel_rfl) (by kernel_rfl)
def e98:B5:=⟨187,[],(some ([k6,(.sc (.int .i64 (.ofNat 58))),(.sc (.int .i64 (.ofNat 336))),(.sc (.int .i64 (.ofNat 0))),(.sc (.int .i64 (.ofNat 0)))],[k6,(.sc (.int .i64 (.ofNat 60))),(.sc (.int .i64 (.ofNat 336))),(.sc (.int .i64 (.ofNat 0))),(.sc (.int .i64 (.ofNat 0)))])),(.agg [(.sc (.int .i64 (.ofNat 13))),(Ai []),(Ai []),(.sc (.int .i64 (.ofNat 3))),(.sc (.int .i64 (.ofNat 0))),(.sc (.int .i64 (.ofNat 0))),(.sc (.int .i64 (.ofNat 0))),(.sc (.int .i64 (.ofNat 0))),(.sl .full 0 []),(.sl .full 0 []),(.sc (.int .i64 (.ofNat 241)))])⟩
theorem jR:AA Tryz.prog Hd.G e98:=Hd.entry (l:=[YC,ZL,lK,s7]) (m:=1000000) (Al.cons Jn (Al.cons JA (Al.cons MN (Al.cons O3 Hd.none)))) (by kernel_rfl) (by kernel_rfl)
def e99:B5:=⟨160,[],(some ([k6,(.sc (.int .i64 (.ofNat 46))),(.sc (.int .i64 (.ofNat 336))),(.sc (.int .i64 (.ofNat 0))),(.sc (.int .i64 (.ofNat 0)))],[k6,(.sc (.int .i64 (.ofNat 62))),(.sc (.int .i64 (.ofNat 336))),(.sc (.int .i64 (.ofNat 0))),(.sc (.int .i64 (.ofNat 0)))])),k21⟩
theorem kO:AA Tryz.prog Hd.G e99:=Hd.entry (l:=[e88,e89,e95,e96,e98]) (m:=1000000) (Al.cons Yg (Al.cons Yn (Al.cons gV (Al.cons kS (Al.cons jR Hd.none))))) (by kernel_rfl) (by kernel_rfl)
def ach:B5:=⟨117,[],(some ([k6,(.sc (.int .i64 (.ofNat 34))),(.sc (.int .i64 (.ofNat 336))),(.sc (.int .i64 (.ofNat 0))),(.sc (.int .i64 (.ofNat 0)))],[k6,(.sc (.int .i64 (.ofNat 62))),(.sc (.int .i64 (.ofNat 336))),(.sc (.int .i64 (.ofNat 0))),(.sc (.int .i64 (.ofNat 0)))])),(.agg [(.sc (.int .i64 (.ofNat 4))),(Ai [108]),(Ai []),(.sc (.int .i64 (.ofNat 2))),(.sc (.int .i64 (.ofNat 0))),(.sc (.int .i64 (.ofNat 0))),(.sc (.int .i64 (.ofNat 0))),(.sc (.int .i64 (.ofNat 0))),(.sl .full 0 []),k22,(.sc (.int .i64 (.ofNat 130)))])⟩
theorem nZ:AA Tryz.prog Hd.G ach:=Hd.entry (l:=[YC,ZL,lF,e87,e90,tF,e93,lK,s7,e99]) (m:=1000000) (Al.cons Jn (Al.cons JA (Al.cons M0 (Al.cons XZ (Al.cons YU (Al.cons O4 (Al.cons kZ (Al.cons MN (Al.cons O3 (Al.cons kO Hd.none)))))))))) (by kernel_rfl) (by kernel_rfl)
def cJ:B5:=⟨199,[k5],none,(.Bd [(.sc (.int .i64 (.ofNat 8797))),(.sc (.int .i64 (.ofNat 0)))])⟩
theorem Qi:AA Tryz.prog Hd.G cJ:=Hd.entry (l:=[]) (m:=1000000) Hd.none (by kernel_rfl) (by kernel_rfl)
def acw:B5:=⟨159,[],(some ([k6,(.sc (.int .i64 (.ofNat 66))),(.sc (.int .i64 (.ofNat 336))),(.sc (.int .i64 (.ofNat 0))),(.sc (.int .i64 (.ofNat 0)))],[k6,(.sc (.int .i64 (.ofNat 72))),(.sc (.int .i64 (.ofNat 336))),(.sc (.int .i64 (.ofNat 0))),(.sc (.int .i64 (.ofNat 0)))])),(.agg [(.sc (.int .i64 (.ofNat 5))),(Ai []),(Ai []),(.sc (.int .i64 (.ofNat 0))),(.sc (.int .i64 (.ofNat 8766))),(.sc (.int .i64 (.ofNat 36525))),(.sc (.int .i64 (.ofNat 8797))),(.sc (.int .i64 (.ofNat 0))),(.sl .full 0 []),(.sl .full 0 []),(.sc (.int .i64 (.ofNat 266)))])⟩
theorem nM:AA Tryz.prog Hd.G acw:=Hd.entry (l:=[lF,tF,cJ]) (m:=1000000) (Al.cons M0 (Al.cons O4 (Al.cons Qi Hd.none))) (by kernel_rfl) (by kernel_rfl)
def adb:B5:=⟨187,[],(some ([k6,(.sc (.int .i64 (.ofNat 77))),(.sc (.int .i64 (.ofNat 336))),(.sc (.int .i64 (.ofNat 0))),(.sc (.int .i64 (.ofNat 0)))],[k6,(.sc (.int .i64 (.ofNat 79))),(.sc (.int .i64 (.ofNat 336))),(.sc (.int .i64 (.ofNat 0))),(.sc (.int .i64 (.ofNat 0)))])),(.agg [(.sc (.int .i64 (.ofNat 11))),(Ai []),(Ai [69,85,82]),(.sc (.int .i64 (.ofNat 0))),(.sc (.int .i64 (.ofNat 0))),(.sc (.int .i64 (.ofNat 0))),(.sc (.int .i64 (.ofNat 0))),(.sc (.int .i64 (.ofNat 0))),(.sl .full 0 []),(.sl .full 0 []),(.sc (.int .i64 (.ofNat 325)))])⟩
theorem qW:AA Tryz.prog Hd.G adb:=Hd.entry (l:=[YC,ZL,lK,s7]) (m:=1000000) (Al.cons Jn (Al.cons JA (Al.cons MN (Al.cons O3 Hd.none)))) (by kernel_rfl) (by kernel_rfl)
end Go.Proofs.YtnijkdknnmgoeaaGreat
