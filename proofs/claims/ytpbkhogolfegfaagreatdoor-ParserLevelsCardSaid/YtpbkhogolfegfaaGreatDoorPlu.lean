/- Part of a proof: see the last text. -/
import Derived.Test.YtpbkhogolfegfaaGreatDoorPlt
set_option linter.unusedVariables false
set_option linter.unusedSimpArgs false
set_option linter.defProp false
noncomputable section
namespace Go.Proofs.YtpbkhogolfegfaaGreatDoor
open AI Go LexS
namespace Mo
set_option maxRecDepth 100000
set_option maxHeartbeats 4000000
def Gk:List (LexS.Tok×List UInt8)->List UInt8
 | []=>[]
 | p::r=>p.1.2.1++(p.2++Gk r)
def Te(o:Nat):List (LexS.Tok×List UInt8)->List LexS.Tok
 | []=>[]
 | p::r=>(p.1.1,p.1.2.1,o)::Te (o+p.1.2.1.length+p.2.length) r
def okG:List (LexS.Tok×List UInt8)->Prop
 | []=>True
 | p::r=>avO p.1/\(alG p.2\/p.2=[]/\r=[])/\okG r
def sD{p:List UInt8}{r:List (LexS.Tok×List UInt8)}(h:alG p\/p=[]/\r=[]):Sep (p++Gk r):=by
 rcases h with ⟨_,c,g,h1,h2⟩ | ⟨rfl,rfl⟩
 exact .inr ⟨c,_,by rw[h1,List.cons_append],h2⟩;exact aqJ
def jT:∀ps:List (LexS.Tok×List UInt8),okG ps->Fk (Gk ps)=0
 | [],_=>rfl
 | p::r,h=>(h.1.2 _ (sD h.2.1)).1
def adC{p:List UInt8}{r:List (LexS.Tok×List UInt8)}(h:alG p\/p=[]/\r=[])(hr:okG r):Fk (p++Gk r)=p.length:=by
 rcases h with h | ⟨rfl,rfl⟩
 exact h.1 _ (jT r hr);rfl
def Zn(ps:List (LexS.Tok×List UInt8))(hg:okG ps)(hd:List UInt8):Ie (hd++Gk ps) hd.length=Te hd.length ps:=by
 induction ps generalizing hd with
 | nil=>exact OI _ _ (by simp[Gk])
 | cons p ps ih =>
   obtain⟨h1,h2,h3⟩:=hg;obtain⟨hk,hr⟩:=h1.2 _ (sD h2);have hdr:(hd++Gk (p::ps)).drop hd.length=p.1.2.1++(p.2++Gk ps):=by rw[List.drop_left];rfl
   have hpos:=PJ (p.1.2.1++(p.2++Gk ps)) (by rw[hr];exact h1.1);rw[hr] at hpos
   have hlt:hd.length < (hd++Gk (p::ps)).length:=by
     rw[Gk];simp only[List.length_append] at hpos ⊢;omega
   rw[OJ _ _ hlt (by rw[hdr,hr];exact h1.1),hdr,hr,List.take_left,Te];refine congrArg _ ?_;have I2:hd++Gk (p::ps)=(hd++p.1.2.1)++(p.2++Gk ps):=by rw[Gk];simp
   have aCS:hd++Gk (p::ps)=(hd++p.1.2.1++p.2)++Gk ps:=by rw[Gk];simp
   have hd2:(hd++Gk (p::ps)).drop (hd.length+p.1.2.1.length)=p.2++Gk ps:=by
     rw[I2,show hd.length+p.1.2.1.length=(hd++p.1.2.1).length from by simp,List.drop_left]
   rw[hd2,adC h2 h3];have:=ih h3 (hd++p.1.2.1++p.2);rw[<- aCS] at this;simp only[List.length_append] at this;exact this
def aCJ(ps:List (LexS.Tok×List UInt8))(hg:okG ps)(hl:(Gk ps).length<=6000)(hn:ps.length<=2000):Ly (Gk ps)=(Te 0 ps,0,0):=by
 have hw:∀(ps:List (LexS.Tok×List UInt8)) (o:Nat),okG ps->(Te o ps).length=ps.length/\∀x∈Te o ps,x.1≠0:=by
   intro ps
   induction ps with
   | nil=>intro o _;exact⟨rfl,λx hx=>by cases hx⟩
   | cons p ps ih =>
     intro o h;obtain⟨a,b⟩:=ih (o+p.1.2.1.length+p.2.length) h.2.2;refine⟨by simp[Te,a],λx hx=>?_⟩;rw[Te] at hx;rcases List.mem_cons.1 hx with rfl | hx
     exact h.1.1;exact b x hx
 refine xS _ _ hl ?_ ⟨by rw[(hw ps 0 hg).1];exact hn,(hw ps 0 hg).2⟩;have:=Zn ps hg [];rw[Sw,jT ps hg];exact this
def sC:alG [32]:=⟨λu h=>by have:JP false u=0:=h;simp[Fk,JP,cin,P5,this],32,[],rfl,rfl⟩
end Mo
end Go.Proofs.YtpbkhogolfegfaaGreatDoor
namespace Go.Proofs.YtpbkhogolfegfaaGreatDoor
open AI Go
namespace Mo
set_option maxRecDepth 100000
set_option maxHeartbeats 4000000
def E4(op:ByteArray):Nat :=
 if op=Sf then 0 else if op=J2 then 1 else if op=EU\/op=Fw\/op=GP\/op=D0\/op=Gf\/op=Dk then 2 else if op=K6\/op=Jl then 3 else 4
theorem Qs(op:ByteArray):Ez op=some ((E4 op:Nat):Int):=by
 unfold Ez E4
 simp only[abM]
 by_cases h1:op=Sf
 · rw[B0 h1,if_pos h1];rfl
 rw[B5 h1,if_neg h1]
 by_cases h2:op=J2
 · rw[B0 h2,if_pos h2];rfl
 rw[B5 h2,if_neg h2]
 by_cases a1:op=EU
 · rw[B0 a1,if_pos (.inl a1)];rfl
 rw[B5 a1]
 by_cases a2:op=Fw
 · rw[B0 a2,if_pos (.inr (.inl a2))];rfl
 rw[B5 a2]
 by_cases a3:op=GP
 · rw[B0 a3,if_pos (.inr (.inr (.inl a3)))];rfl
 rw[B5 a3]
 by_cases a4:op=D0
 · rw[B0 a4,if_pos (.inr (.inr (.inr (.inl a4))))];rfl
 rw[B5 a4]
 by_cases a5:op=Gf
 · rw[B0 a5,if_pos (.inr (.inr (.inr (.inr (.inl a5)))))];rfl
 rw[B5 a5]
 by_cases a6:op=Dk
 · rw[B0 a6,if_pos (.inr (.inr (.inr (.inr (.inr a6)))))];rfl
 rw[B5 a6,if_neg (by simp[a1,a2,a3,a4,a5,a6])]
 by_cases b1:op=K6
 · rw[B0 b1,if_pos (.inl b1)];rfl
 rw[B5 b1]
 by_cases b2:op=Jl
 · rw[B0 b2,if_pos (.inr b2)];rfl
 rw[B5 b2,if_neg (by simp[b1,b2])];rfl
theorem aqR(op:ByteArray):E4 op<=4:=by
 unfold E4
 repeat' split
 all_goals omega
def aER(x:ByteArray):Nd:=Ee 12 x bE 0 [] 0
def zT(op:ByteArray)(a b:Nd):Nd:=if op=Gf then Ee 16 GP bE 0 [b,a] 0 else if op=Dk then Ee 16 D0 bE 0 [b,a] 0 else Ee 16 op bE 0 [a,b] 0
inductive Ch:ByteArray->List (ByteArray×ByteArray)->Nd->Prop
 | one (x:ByteArray):Ch x [] (aER x)
 | two {x op n:ByteArray} {A B:List (ByteArray×ByteArray)} {t1 t2:Nd}:Ch x A t1->Ch n B t2->(∀p∈A,E4 op<=E4 p.1)->(∀p∈B,E4 op < E4 p.1)->Ch x (A++(op,n)::B) (zT op t1 t2)
def okF(b:Bool):List Nat->Bool
 | []=>true
 | s::l=>if s < 2 then okF false l else if s=2 then (!b&&okF true l) else okF b l
abbrev strs(S:List (ByteArray×ByteArray)):List Nat:=S.map λp=>E4 p.1
theorem Oo:∀{l:List Nat} {b:Bool},(∀s∈l,2 < s)->okF b l=true
 | [],_,_=>rfl
 | s::l,b,h=>by
   have:=h s (by simp)
   rw[okF,if_neg (by omega),if_neg (by omega)]
   exact Oo λx hx=>h x (by simp[hx])
theorem Yu:∀{l m:List Nat} {b:Bool},okF b l=false->okF b (l++m)=false
 | [],_,_,h=>by cases h
 | s::l,m,b,h=>by
   rw[List.cons_append]
   rw[okF] at h ⊢
   split
   · rename_i h1
     rw[if_pos h1] at h
     exact Yu h
   · rename_i h1
     rw[if_neg h1] at h
     split
     · rename_i h2
       rw[if_pos h2] at h
       cases b
       · rw[Bool.not_false,Bool.true_and] at h ⊢
         exact Yu h
       · rfl
     · rename_i h2
       rw[if_neg h2] at h
       exact Yu h
theorem UC:∀{l m:List Nat} {s:Nat} {b:Bool},s < 2->okF b (l++s::m)=(okF b l&&okF false m)
 | [],m,s,b,h=>by
   show(if s < 2 then okF false m else _)=(true&&okF false m)
   rw[if_pos h,Bool.true_and]
 | x::l,m,s,b,h=>by
   rw[List.cons_append,okF,okF]
   split
   · exact UC h
   · split
     · rw[UC h,Bool.and_assoc]
     · exact UC h
def Lr(l:List Nat):Nat:=l.countP λs=>s == 2
theorem dO:∀{l:List Nat} {b:Bool},(∀s∈l,2<=s)->okF b l=decide (Lr l+(if b then 1 else 0)<=1\/Lr l=0)
 | [],b,_=>by simp[okF,Lr]
 | s::l,b,h=>by
   have hs:=h s (by simp)
   have ih:∀b,okF b l=decide (Lr l+(if b then 1 else 0)<=1\/Lr l=0):=λb=>dO λx hx=>h x (by simp[hx])
   rw[okF,if_neg (by omega)]
   have hc:Lr (s::l)=Lr l+if s=2 then 1 else 0:=by
     unfold Lr
     rw[List.countP_cons]
     by_cases h2:s=2<;>simp[h2]
   by_cases h2:s=2
   · rw[if_pos h2,ih,hc,if_pos h2]
     cases b
     · simp only[Bool.not_false,Bool.true_and,if_true,Bool.false_eq_true,if_false]
       rw[Bool.eq_iff_iff,decide_eq_true_iff,decide_eq_true_iff];omega
     · simp only[Bool.not_true,Bool.false_and,if_true]
       symm
       rw[decide_eq_false_iff_not];omega
   · rw[if_neg h2,ih,hc,if_neg h2,Nat.add_zero]
theorem pN{l m:List Nat}{s:Nat}(h1:∀x∈l,s<=x)(h2:∀x∈m,s < x):okF false (l++s::m)=(okF false l&&(okF false m&&!(decide (s=2)&&decide (1 < Lr (l++s::m))))):=by
 rcases Nat.lt_trichotomy s 2 with h | h | h
 · rw[UC h,show decide (s=2)=false from decide_eq_false (by omega)];simp
 · subst h
   have e1:∀x∈l++2::m,2<=x:=by
     intro x hx
     rcases List.mem_append.1 hx with hx | hx
     · exact h1 x hx
     · rcases List.mem_cons.1 hx with rfl | hx
       · exact Nat.le_refl _
       · exact Nat.le_of_lt (h2 x hx)
   rw[dO e1,dO h1,Oo h2]
   have hc:Lr l<=Lr (l++2::m):=by unfold Lr;rw[List.countP_append];omega
   simp only[Bool.false_eq_true,if_false,Nat.add_zero,decide_true,Bool.true_and]
   rw[Bool.eq_iff_iff,Bool.and_eq_true,Bool.not_eq_true',decide_eq_true_iff,decide_eq_true_iff,decide_eq_false_iff_not]
   omega
 · rw[Oo (l:=l) λx hx=>by have:=h1 x hx;omega,Oo (l:=m) λx hx=>by have:=h2 x hx;omega,show decide (s=2)=false from decide_eq_false (by omega)]
   rw[Oo];· rfl
   intro x hx
   rcases List.mem_append.1 hx with hx | hx
   · have:=h1 x hx;omega
   · rcases List.mem_cons.1 hx with rfl | hx
     · exact h
     · have:=h2 x hx;omega
theorem vS:∀(S:List (ByteArray×ByteArray)),S≠[]->∃A p B,S=A++p::B/\(∀x∈A,E4 p.1<=E4 x.1)/\∀x∈B,E4 p.1 < E4 x.1
 | [],h=>absurd rfl h
 | [p],_=>⟨[],p,[],rfl,λx hx=>(by cases hx),λx hx=>(by cases hx)⟩
 | p::q::S,_=>by
   obtain⟨A,r,B,h1,h2,h3⟩:=vS (q::S) (by simp)
   by_cases h:E4 r.1<=E4 p.1
   · exact⟨p::A,r,B,by rw[h1];rfl,λx hx=>by rcases List.mem_cons.1 hx with rfl | hx;exact h;exact h2 x hx,h3⟩
   · refine⟨[],p,q::S,rfl,λx hx=>(by cases hx),λx hx=>?_⟩
     rw[h1] at hx
     rcases List.mem_append.1 hx with hx | hx
     · have:=h2 x hx;omega
     · rcases List.mem_cons.1 hx with rfl | hx
       · omega
       · have:=h3 x hx;omega
theorem aBU:∀(q:Nat) (x:ByteArray) (S:List (ByteArray×ByteArray)),S.length<=q->∃t,Ch x S t:=by
 intro q
 induction q with
 | zero =>
   intro x S h
   have:=List.eq_nil_of_length_eq_zero (Nat.le_zero.1 h)
   subst this
   exact⟨_,.one x⟩
 | succ q ih =>
   intro x S h
   by_cases hS:S=[]
   · subst hS;exact⟨_,.one x⟩
   · obtain⟨A,p,B,rfl,h2,h3⟩:=vS S hS
     simp only[List.length_append,List.length_cons] at h
     obtain⟨t1,a1⟩:=ih x A (by omega)
     obtain⟨t2,a2⟩:=ih p.2 B (by omega)
     exact⟨_,.two a1 a2 h2 h3⟩
theorem UL{α:Type}{l:List α}{a b:Nat}(h1:a<=b)(h2:b<=l.length):Qt l (a:Int) (b:Int)=some ((l.drop a).take (b - a)):=by
 unfold Qt
 rw[if_pos ⟨by omega,by omega,by omega⟩]
 rfl
section
variable {r:List ByteArray->List ByteArray->Option (Nd×Bool)}
theorem aBV{A B:List ByteArray}{op:ByteArray}(hA:∀x∈A,E4 op<=E4 x)(hB:∀x∈B,E4 op < E4 x)(hl:(A++op::B).length<=100000) :
   CX (λi y x=>GJ r (A++op::B) i y x) (λx=>x) (A++op::B) 0 (0:Int)=some (.inl ((A.length:Nat):Int)):=by
 have get:∀i:Nat,i<=A.length->∃x,(A++op::B)[i]?=some x/\E4 op<=E4 x:=by
   intro i hi
   rcases Nat.lt_or_ge i A.length with h | h
   · exact⟨A[i],by rw[List.getElem?_append_left h,List.getElem?_eq_getElem h],hA _ (List.getElem_mem h)⟩
   · have:i=A.length:=by omega
     subst this
     exact⟨op,by rw[List.getElem?_append_right (Nat.le_refl _),Nat.sub_self];rfl,Nat.le_refl _⟩
 have key:∀(m:List ByteArray) (i a:Nat),(A++op::B).drop i=m->a<=A.length->(A.length < i->a=A.length)->CX (ρ:=Nd×Bool) (λi y x=>GJ r (A++op::B) i y x) (λx=>x) m i ((a:Nat):Int)=some (.inl ((A.length:Nat):Int)):=by
   intro m
   induction m with
   | nil =>
     intro i a hd ha hi
     have:=List.drop_eq_nil_iff.1 hd
     rw[List.length_append,List.length_cons] at this
     rw[hi (by omega)];rfl
   | cons y m ih =>
     intro i a hd ha hi
     have hy:(A++op::B)[i]?=some y:=by rw[<- List.head?_drop,hd];rfl
     have hd2:(A++op::B).drop (i+1)=m:=by rw[<- List.tail_drop,hd];rfl
     obtain⟨x,fO,mR⟩:=get a ha
     rw[CX]
     have e:GJ r (A++op::B) i y ((a:Nat):Int)=some (.nx (if E4 y<=E4 x then ((i:Nat):Int) else ((a:Nat):Int))):=by
       unfold GJ
       rw[Qs,Option.bind_some,acY,fO,Option.bind_some,Qs,Option.bind_some,aJG]
       by_cases h:E4 y<=E4 x
       · rw[B0 (by omega),if_pos h]
       · rw[B5 (by omega),if_neg h]
     rw[e,Option.bind_some]
     rcases Nat.lt_trichotomy i A.length with h | h | h
     · split
       · exact ih (i+1) i hd2 (by omega) (λh=>by omega)
       · exact ih (i+1) a hd2 ha (λh=>by omega)
     · have hyo:y=op:=by
         have:(A++op::B)[A.length]?=some op:=by rw[List.getElem?_append_right (Nat.le_refl _),Nat.sub_self];rfl
         rw[<- h,hy] at this
         exact Option.some.inj this
       rw[hyo,if_pos mR]
       exact ih (i+1) i hd2 (by omega) (λ_=>h)
     · have X6:=hi h
       have hxo:x=op:=by
         have:(A++op::B)[A.length]?=some op:=by rw[List.getElem?_append_right (Nat.le_refl _),Nat.sub_self];rfl
         rw[<- X6,fO] at this
         exact Option.some.inj this
       have hyB:y∈B:=by
         rw[List.getElem?_append_right (by omega)] at hy
         rw[show i - A.length=(i - A.length - 1)+1 by omega,List.getElem?_cons_succ] at hy
         exact List.mem_of_getElem? hy
       rw[hxo,if_neg (by have:=hB y hyB;omega)]
       exact ih (i+1) a hd2 ha (λ_=>X6)
 exact key _ 0 0 rfl (Nat.zero_le _) (λh=>by omega)
theorem aBW:∀(l:List ByteArray) (i c:Nat),c+l.length<=100000->CX (λi y x=>Jy r i y x) (λx=>x) l i ((c:Nat):Int)=some (.inl (((c+Lr (l.map E4)):Nat):Int)):=by
 intro l
 induction l with
 | nil=>intro i c _;simp[CX,Lr]
 | cons y l ih =>
   intro i c h
   simp only[List.length_cons] at h
   rw[CX]
   unfold Jy
   rw[Qs,Option.bind_some,aJF,List.map_cons]
   have hc:Lr (E4 y::l.map E4)=Lr (l.map E4)+if E4 y=2 then 1 else 0:=by
     unfold Lr
     rw[List.countP_cons]
     by_cases h2:E4 y=2<;>simp[h2]
   rw[hc]
   by_cases h2:E4 y=2
   · rw[B0 (by omega),if_pos h2,Gr (by omega),Option.bind_some]
     have:=ih (i+1) (c+1) (by omega)
     rw[show((c:Nat):Int)+1=((c+1:Nat):Int) by omega]
     refine Eq.trans this ?_
     congr 3;omega
   · rw[B5 (by omega),if_neg h2,Option.bind_some]
     exact ih (i+1) c (by omega)
end
abbrev Yr(x:ByteArray)(S:List (ByteArray×ByteArray)):List ByteArray:=x::S.map (·.2)
abbrev UD(S:List (ByteArray×ByteArray)):List ByteArray:=S.map (·.1)
theorem alZ{x:ByteArray}{S:List (ByteArray×ByteArray)}{t:Nd}(h:Ch x S t):∀q,S.length < q->S.length<=1000->EH q (Yr x S) (UD S)=some (if okF false (strs S) then (t,true) else (z0,false)):=by
 induction h with
 | one x =>
   intro q hq _
   cases q with
   | zero=>omega
   | succ q=>rfl
 | two h1 h2 hA hB jA oR =>
   rename_i x op n A B t1 t2
   intro q hq hl
   cases q with
   | zero=>omega
   | succ q =>
     simp only[List.length_append,List.length_cons] at hq hl
     have i1:=jA q (by omega) (by omega)
     have i2:=oR q (by omega) (by omega)
     have axK:UD (A++(op,n)::B)=UD A++op::UD B:=by simp
     have hnm:Yr x (A++(op,n)::B)=Yr x A++Yr n B:=by simp
     have FW:strs (A++(op,n)::B)=strs A++E4 op::strs B:=by simp
     have hlA:(UD A).length=A.length:=by simp
     have hlB:(UD B).length=B.length:=by simp
     have hnA:(Yr x A).length=A.length+1:=by simp
     have hnB:(Yr n B).length=B.length+1:=by simp
     rw[EH,LK,axK,hnm]
     have xJ:(UD A++op::UD B).length=A.length+B.length+1:=by rw[List.length_append,List.length_cons,hlA,hlB];omega
     rw[xJ,Pk (by omega)]
     dsimp only[cond]
     rw[Hw (by omega),Hw (by omega),List.drop_zero,aBV (r:=EH q) (A:=UD A) (B:=UD B) (op:=op) (λy hy=>by obtain⟨p,hp,rfl⟩:=List.mem_map.1 hy;exact hA p hp) (λy hy=>by obtain⟨p,hp,rfl⟩:=List.mem_map.1 hy;exact hB p hp) (by omega),Option.bind_some]
     dsimp only[N4]
     have l2:=aBW (r:=EH q) (UD A++op::UD B) 0 0 (by rw[xJ];omega)
     rw[show((0:Nat):Int)=0 from rfl] at l2
     rw[l2,Option.bind_some,Nat.zero_add,hlA,Gr (by omega)]
     dsimp only[N4]
     have s1:Qt (Yr x A++Yr n B) 0 (((A.length:Nat):Int)+1)=some (Yr x A):=by
       have:=UL (l:=Yr x A++Yr n B) (a:=0) (b:=A.length+1) (by omega) (by rw[List.length_append,hnA];omega)
       rw[show(((A.length:Nat):Int)+1)=((A.length+1:Nat):Int) by omega]
       rw[show((0:Nat):Int)=0 from rfl] at this
       rw[this,List.drop_zero,Nat.sub_zero,<- hnA,List.take_left]
     have s2:Qt (UD A++op::UD B) 0 ((A.length:Nat):Int)=some (UD A):=by
       have:=UL (l:=UD A++op::UD B) (a:=0) (b:=A.length) (by omega) (by rw[xJ];omega)
       rw[show((0:Nat):Int)=0 from rfl] at this
       rw[this,List.drop_zero,Nat.sub_zero,<- hlA,List.take_left]
     have s3:Qt (Yr x A++Yr n B) (((A.length:Nat):Int)+1) (((Yr x A++Yr n B).length:Nat):Int)=some (Yr n B):=by
       have:=UL (l:=Yr x A++Yr n B) (a:=A.length+1) (b:=(Yr x A++Yr n B).length) (by rw[List.length_append,hnA];omega) (Nat.le_refl _)
       rw[show(((A.length:Nat):Int)+1)=((A.length+1:Nat):Int) by omega,this,<- hnA,List.drop_left,List.length_append,Nat.add_sub_cancel_left,List.take_length]
     have s4:Qt (UD A++op::UD B) (((A.length:Nat):Int)+1) (((A.length+B.length+1:Nat)):Int)=some (UD B):=by
       have:=UL (l:=UD A++op::UD B) (a:=A.length+1) (b:=A.length+B.length+1) (by omega) (by rw[xJ];omega)
       rw[show(((A.length:Nat):Int)+1)=((A.length+1:Nat):Int) by omega,this,List.drop_append,List.drop_eq_nil_of_le (by omega),List.nil_append,hlA,show A.length+1 - A.length=1 by omega,List.drop_succ_cons,List.drop_zero,show A.length+B.length+1 - (A.length+1)=B.length by omega,<- hlB,List.take_length]
     rw[s1,Option.bind_some,s2,Option.bind_some,i1,Option.bind_some]
     have RB:=pN (l:=strs A) (m:=strs B) (s:=E4 op) (λy hy=>by obtain⟨p,hp,rfl⟩:=List.mem_map.1 hy;exact hA p hp) (λy hy=>by obtain⟨p,hp,rfl⟩:=List.mem_map.1 hy;exact hB p hp)
     rw[FW,RB]
     have hgo:IA (UD A++op::UD B) ((A.length:Nat):Int)=some op:=by
       rw[acY,List.getElem?_append_right (by omega),hlA,Nat.sub_self];rfl
     have aLG:(UD A++op::UD B).map E4=strs A++E4 op::strs B:=by rw[List.map_append,List.map_cons,List.map_map,List.map_map];rfl
     have fin:(cond (BS op.data.toList Gf.data.toList) ((DK GP t2 t1).bind λy17=>some (y17,true)) (cond (BS op.data.toList Dk.data.toList) ((DK D0 t2 t1).bind λy18=>some (y18,true)) ((DK op t1 t2).bind λy19=>some (y19,true))))=some (zT op t1 t2,true):=by
       rw[abM,abM]
       unfold zT
       by_cases a1:op=Gf
       · rw[B0 a1,if_pos a1];rfl
       rw[B5 a1,if_neg a1]
       by_cases a2:op=Dk
       · rw[B0 a2,if_pos a2];rfl
       rw[B5 a2,if_neg a2];rfl
     cases e1:okF false (strs A)<;>cases e2:okF false (strs B) <;>
       simp only[if_true,Bool.false_eq_true,if_false,Bool.false_and,Bool.true_and,s3,s4,i2,e2,Option.bind_some]<;>try rfl
     rw[hgo,Option.bind_some,Qs,Option.bind_some,aLG]
     have eI:Dr ((E4 op:Nat):Int) 2=decide (E4 op=2):=by rw[Nn,Bool.eq_iff_iff,beq_iff_eq,decide_eq_true_iff];omega
     have lI:E3 1 ((Lr (strs A++E4 op::strs B):Nat):Int)=decide (1 < Lr (strs A++E4 op::strs B)):=by rw[Qb,Bool.eq_iff_iff,decide_eq_true_iff,decide_eq_true_iff];omega
     rw[eI,lI]
     cases decide (E4 op=2)
     · exact fin
     · cases decide (1 < Lr (strs A++E4 op::strs B))
       · exact fin
       · rfl
theorem rN{x:ByteArray}{S:List (ByteArray×ByteArray)}{t:Nd}(h:Ch x S t)(hl:S.length<=1000):Ke (Yr x S) (UD S)=some (if okF false (strs S) then (t,true) else (z0,false)):=Vk (S.length+1) λq hq=>alZ h q (by omega) hl
end Mo
end Go.Proofs.YtpbkhogolfegfaaGreatDoor
namespace Go.Proofs.YtpbkhogolfegfaaGreatDoor
open AI Go LexS
namespace Mo
set_option maxRecDepth 100000
set_option maxHeartbeats 4000000
def MD:List ByteArray:=[Sf,J2,EU,Fw,GP,D0,Gf,Dk,K6,Jl,MY,Vf]
abbrev Et(p:Tk×Tk):Nat:=E4 p.1.text
def rE(t:Tk):Prop:=t.kind=1/\BT t=some true/\BS t.text.data.toList SG.data.toList=false
def Ra(p:Tk×Tk):Prop:=p.1.text∈MD/\rE p.2
def flat(R:List (Tk×Tk)):List Tk:=R.flatMap λp=>[p.1,p.2]
abbrev pr(R:List (Tk×Tk)):List (ByteArray×ByteArray):=R.map λp=>(p.1.text,p.2.text)
abbrev hi(k:Nat)(p:Tk×Tk):Bool:=decide (k<=Et p)
theorem aqS(R:List (Tk×Tk)):strs (pr R)=R.map Et:=by unfold strs pr;rw[List.map_map];rfl
theorem take_split(k:Nat):∀R:List (Tk×Tk),R.takeWhile (hi k)=R.takeWhile (hi (k+1))++(R.dropWhile (hi (k+1))).takeWhile (hi k)
 | []=>rfl
 | p::R=>by
   by_cases h:k+1<=Et p
   · have h1:hi (k+1) p=true:=decide_eq_true h
     have h2:hi k p=true:=decide_eq_true (by omega)
     rw[List.takeWhile_cons,List.takeWhile_cons,List.dropWhile_cons,h1,h2]
     simp only[if_true,List.cons_append]
     rw[<- take_split k R]
   · have h1:hi (k+1) p=false:=decide_eq_false h
     rw[List.takeWhile_cons (p:=hi (k+1)),List.dropWhile_cons,h1]
     simp
theorem Nk(k:Nat):∀R:List (Tk×Tk),R.dropWhile (hi k)=(R.dropWhile (hi (k+1))).dropWhile (hi k)
 | []=>rfl
 | p::R=>by
   by_cases h:k+1<=Et p
   · have h1:hi (k+1) p=true:=decide_eq_true h
     have h2:hi k p=true:=decide_eq_true (by omega)
     rw[List.dropWhile_cons,List.dropWhile_cons,h1,h2]
     simp only[if_true]
     rw[<- Nk k R]
   · have h1:hi (k+1) p=false:=decide_eq_false h
     rw[List.dropWhile_cons (p:=hi (k+1)),h1]
     simp
theorem La(k:Nat):∀(R:List (Tk×Tk)),∀p∈R.takeWhile (hi k),k<=Et p
 | [],p,hp=>by cases hp
 | q::R,p,hp=>by
   rw[List.takeWhile_cons] at hp
   split at hp
   · rename_i h
     rcases List.mem_cons.1 hp with rfl | hp
     · exact of_decide_eq_true h
     · exact La k R p hp
   · cases hp
theorem Pj(k:Nat):∀(R:List (Tk×Tk)) (p:Tk×Tk) (s:List (Tk×Tk)),R.dropWhile (hi (k+1))=p::s->Et p<=k
 | [],p,s,h=>by cases h
 | q::R,p,s,h=>by
   rw[List.dropWhile_cons] at h
   split at h
   · exact Pj k R p s h
   · rename_i hn
     cases h
     have:=of_decide_eq_false (Bool.eq_false_iff.2 hn)
     omega
theorem gY(k:Nat):∀(R:List (Tk×Tk)),(R.dropWhile (hi k)).length<=R.length
 | []=>Nat.le_refl _
 | q::R=>by
   rw[List.dropWhile_cons]
   split
   · have:=gY k R;simp only[List.length_cons];omega
   · exact Nat.le_refl _
theorem iC(R:List (Tk×Tk)):(flat R).length=2*R.length:=by
 induction R with
 | nil=>rfl
 | cons p R ih =>
   show(p.1::p.2::flat R).length=_
   simp only[List.length_cons,ih];omega
def Rb(k:Nat)(m:Rd Nd):Prop:=∀(x:Tk) (R:List (Tk×Tk)),rE x->(∀p∈R,Ra p)->∃t s,m (x::flat R)=some (.inl t,flat s)/\(∀p∈s,Ra p) /\
 ((okF false ((R.takeWhile (hi k)).map Et)=true/\Ch x.text (pr (R.takeWhile (hi k))) (GA t)/\s=R.dropWhile (hi k))\/(okF false ((R.takeWhile (hi k)).map Et)=false/\∃p s',s=p::s'/\Et p=2))
def VW(i k:Nat):Prop:=∀(t:Tk) (l:List Tk) (yes:ByteArray->Rd Nd) (no:Rd Nd),t.text∈MD->Zz yes no (opsOf i) (t::l)=if E4 t.text=k then yes t.text l else no (t::l)
theorem Yx:VW 0 0/\VW 1 1/\VW 3 2/\VW 4 3/\VW 5 4:=by
 have s:E4 Sf=0/\E4 J2=1/\E4 EU=2/\E4 Fw=2/\E4 GP=2/\E4 D0=2/\E4 Gf=2/\E4 Dk=2/\E4 K6=3/\E4 Jl=3/\E4 MY=4/\E4 Vf=4:=by decide
 obtain⟨s1,s2,s3,s4,s5,s6,s7,s8,s9,s10,s11,s12⟩:=s
 have go:∀(i k:Nat),(∀x∈MD,∀(yes:ByteArray->Rd Nd) (no:Rd Nd) (t:Tk) (l:List Tk),t.text=x->Zz yes no (opsOf i) (t::l)=if E4 x=k then yes x l else no (t::l))->VW i k:=by
   intro i k h t l yes no hm
   exact h _ hm yes no t l rfl
 refine⟨go _ _ ?_,go _ _ ?_,go _ _ ?_,go _ _ ?_,go _ _ ?_⟩ <;>
 · intro x hx yes no t l ht
   unfold MD at hx
   simp only[List.mem_cons,List.not_mem_nil,or_false] at hx
   rcases hx with rfl | rfl | rfl | rfl | rfl | rfl | rfl | rfl | rfl | rfl | rfl | rfl <;>
   · simp only[opsOf,Zz,N9,Ji,ht,s1,s2,s3,s4,s5,s6,s7,s8,s9,s10,s11,s12]
     rfl
theorem amI{x:ByteArray}(h:x∈MD):BS x.data.toList E9.data.toList=false:=by
 unfold MD at h
 simp only[List.mem_cons,List.not_mem_nil,or_false] at h
 rcases h with rfl | rfl | rfl | rfl | rfl | rfl | rfl | rfl | rfl | rfl | rfl | rfl<;>rfl
theorem abA(op:ByteArray)(l r:Nd):∃b,A9 op l r=some b/\GA b=zT op (GA l) (GA r):=by
 have stn:∀(nm:ByteArray) (a b:Nd) (p:Int),GA (⟨16,nm,ByteArray.empty,0,0,0,0,⟨0,[]⟩,[a,b],p⟩:Nd)=Ee 16 nm bE 0 [GA a,GA b] 0:=by
   intro nm a b p;rw[J8];rfl
 unfold A9 zT
 cases h1:BS op.data.toList Gf.data.toList with
 | true =>
   have:=MB h1
   subst this
   rw[show JG Gf Gf GP 1=some GP from rfl,if_pos rfl]
   exact⟨_,rfl,stn _ _ _ _⟩
 | false =>
   rw[if_neg (hJ h1)]
   cases h2:BS op.data.toList Dk.data.toList with
   | true =>
     have:=MB h2
     subst this
     rw[show JG Dk Gf GP 1=some D0 from rfl,if_pos rfl]
     exact⟨_,rfl,stn _ _ _ _⟩
   | false =>
     rw[if_neg (hJ h2)]
     exact⟨_,rfl,stn _ _ _ _⟩
section
variable {en:Int}
theorem kK{k:Nat}{sub:Rd Nd}(hs:Rb k sub){p:Tk×Tk}{R:List (Tk×Tk)}(hp:Ra p)(hR:∀p∈R,Ra p)(l:Nd):∃b r s,Ky en sub p.1.text l (p.2::flat R)=some (.inl b,flat s)/\GA b=zT p.1.text (GA l) (GA r)/\(∀p∈s,Ra p) /\
   ((okF false ((R.takeWhile (hi k)).map Et)=true/\Ch p.2.text (pr (R.takeWhile (hi k))) (GA r)/\s=R.dropWhile (hi k))\/(okF false ((R.takeWhile (hi k)).map Et)=false/\∃p s',s=p::s'/\Et p=2)):=by
 obtain⟨r,s,h1,h2,h3⟩:=hs p.2 R hp.2 hR
 obtain⟨b,hb,hb2⟩:=abA p.1.text l r
 refine⟨b,r,s,?_,hb2,h2,h3⟩
 unfold Ky Cu
 rw[amI hp.1]
 simp only[cond_false,h1]
 unfold Lh
 rw[hb]
 rfl
theorem abR{i k:Nat}(ho:VW i k)(hk:k≠2){sub:Rd Nd}(hs:Rb (k+1) sub):∀(q:Nat) (x:Tk) (S R:List (Tk×Tk)) (l:Nd),R.length < q->(∀p∈R,Ra p)->(∀p∈S,k<=Et p)->Ch x.text (pr S) (GA l)->okF false (S.map Et)=true->(∀p s,R=p::s->Et p<=k) ->
   ∃t s,GC en (opsOf i) sub q l (flat R)=some (.inl t,flat s)/\(∀p∈s,Ra p) /\
     ((okF false ((S++R.takeWhile (hi k)).map Et)=true/\Ch x.text (pr (S++R.takeWhile (hi k))) (GA t)/\s=R.dropWhile (hi k))\/(okF false ((S++R.takeWhile (hi k)).map Et)=false/\∃p s',s=p::s'/\Et p=2)):=by
 intro q
 induction q with
 | zero=>intro x S R l h;omega
 | succ q ih =>
   intro x S R l hq hg hS hc RB hh
   cases R with
   | nil =>
     refine⟨l,[],?_,λp hp=>(by cases hp),.inl ⟨by simpa using RB,by simpa using hc,rfl⟩⟩
     show GC en (opsOf i) sub (q+1) l []=_
     unfold GC
     have:∀(yes:ByteArray->Rd Nd) (no:Rd Nd) (ops:List ByteArray),Zz yes no ops []=no []:=by
       intro yes no ops
       induction ops with
       | nil=>rfl
       | cons o ops ih=>exact ih
     rw[this];rfl
   | cons p R =>
     have hp:=hg p (by simp)
     have hR:∀p∈R,Ra p:=λy hy=>hg y (by simp[hy])
     have hle:=hh p R rfl
     have e1:GC en (opsOf i) sub (q+1) l (flat (p::R))=if Et p=k then Cu (Ky en sub p.1.text l) (λb=>GC en (opsOf i) sub q b) (p.2::flat R) else some (.inl l,flat (p::R)):=ho p.1 (p.2::flat R) _ _ hp.1
     rw[e1]
     by_cases hpk:Et p=k
     rotate_left
     · have hlt:hi k p=false:=decide_eq_false (by omega)
       rw[if_neg hpk]
       refine⟨l,p::R,rfl,hg,.inl ?_⟩
       rw[List.takeWhile_cons,List.dropWhile_cons,hlt]
       simp only[Bool.false_eq_true,if_false,List.append_nil]
       exact⟨RB,hc,trivial⟩
     rw[if_pos hpk]
     obtain⟨b,r,s,h1,h2,h3,h4⟩:=kK (en:=en) hs hp hR l
     have xI:hi k p=true:=decide_eq_true (by omega)
     have htk:(p::R).takeWhile (hi k)=p::(R.takeWhile (hi (k+1))++(R.dropWhile (hi (k+1))).takeWhile (hi k)):=by
       rw[List.takeWhile_cons,xI,<- take_split];rfl
     have hdr:(p::R).dropWhile (hi k)=(R.dropWhile (hi (k+1))).dropWhile (hi k):=by
       rw[List.dropWhile_cons,xI,<- Nk];rfl
     have e2:Cu (Ky en sub p.1.text l) (λb=>GC en (opsOf i) sub q b) (p.2::flat R)=GC en (opsOf i) sub q b (flat s):=by
       unfold Cu;rw[h1]
     rw[e2,htk,hdr]
     simp only[List.length_cons] at hq
     rcases h4 with ⟨a1,a2,rfl⟩ | ⟨a1,p',s',rfl,a3⟩
     · have hT:=La (k+1) R
       have hch:Ch x.text (pr (S++p::R.takeWhile (hi (k+1)))) (GA b):=by
         have:=Ch.two (op:=p.1.text) hc a2 (λy hy=>by obtain⟨z,hz,rfl⟩:=List.mem_map.1 hy;have:=hS z hz;show Et p<=Et z;omega) (λy hy=>by obtain⟨z,hz,rfl⟩:=List.mem_map.1 hy;have:=hT z hz;show Et p < Et z;omega)
         rw[h2]
         simpa using this
       have aLH:okF false ((S++p::R.takeWhile (hi (k+1))).map Et)=true:=by
         rw[List.map_append,List.map_cons,pN (s:=Et p) (λy hy=>by obtain⟨z,hz,rfl⟩:=List.mem_map.1 hy;have:=hS z hz;show Et p<=Et z;omega) (λy hy=>by obtain⟨z,hz,rfl⟩:=List.mem_map.1 hy;have:=hT z hz;show Et p < Et z;omega),RB,a1,show decide (Et p=2)=false from decide_eq_false (by omega)]
         rfl
       have:=gY (k+1) R
       have:=ih x (S++p::R.takeWhile (hi (k+1))) (R.dropWhile (hi (k+1))) b (by omega) h3 (λy hy=>by
         rcases List.mem_append.1 hy with hy | hy
         · exact hS y hy
         · rcases List.mem_cons.1 hy with rfl | hy
           · omega
           · have:=hT y hy;omega) hch aLH (λy z e=>Pj k R y z e)
       rw[List.append_assoc,List.cons_append] at this
       exact this
     · have hk2:k < 2:=by
         rcases Nat.lt_or_ge k 2 with h | h
         · exact h
         · rw[Oo λy hy=>by obtain⟨z,hz,rfl⟩:=List.mem_map.1 hy;have:=La (k+1) R z hz;omega] at a1
           cases a1
       have hp':=h3 p' (by simp)
       obtain⟨q',rfl⟩:∃q',q=q'+1:=⟨q - 1,by omega⟩
       refine⟨b,p'::s',?_,h3,.inr ⟨?_,p',s',rfl,a3⟩⟩
       · have:GC en (opsOf i) sub (q'+1) b (flat (p'::s'))=if Et p'=k then _ else some (.inl b,flat (p'::s')):=ho p'.1 (p'.2::flat s') _ _ hp'.1
         rw[this,if_neg (by omega)]
       · rw[List.map_append,List.map_cons,UC (by omega),List.map_append,Yu a1,Bool.and_false]
theorem Uy{i k:Nat}(ho:VW i k)(hk:k≠2){g:Ek->Rd Nd}(hs:Rb (k+1) (g (.lv (i+1)))):Rb k (Lx en g i):=by
 intro x R hx hR
 obtain⟨t,s,h1,h2,h3⟩:=hs x R hx hR
 have e:Lx en g i (x::flat R)=GC en (opsOf i) (g (.lv (i+1))) ((flat s).length+1) t (flat s):=by
   unfold Lx Cu;rw[h1]
 rw[e,take_split k R,Nk k R]
 rcases h3 with ⟨a1,a2,rfl⟩ | ⟨a1,p,s',rfl,a3⟩
 · exact abR ho hk hs _ x (R.takeWhile (hi (k+1))) (R.dropWhile (hi (k+1))) t (by rw[iC];omega) h2 (λp hp=>by have:=La (k+1) R p hp;omega) a2 a1 (λy z e=>Pj k R y z e)
 · have hk2:k < 2:=by
     rcases Nat.lt_or_ge k 2 with h | h
     · exact h
     · rw[Oo λy hy=>by obtain⟨z,hz,rfl⟩:=List.mem_map.1 hy;have:=La (k+1) R z hz;omega] at a1
       cases a1
   refine⟨t,p::s',?_,h2,.inr ⟨by rw[List.map_append,Yu a1],p,s',rfl,a3⟩⟩
   have:GC en (opsOf i) (g (.lv (i+1))) ((flat (p::s')).length+1) t (flat (p::s'))=if Et p=k then _ else some (.inl t,flat (p::s')):=ho p.1 (p.2::flat s') _ _ (h2 p (by simp)).1
   rw[this,if_neg (by omega)]
theorem amF{g:Ek->Rd Nd}(hs:Rb 3 (g (.lv 4))):Rb 2 (V1 en g):=by
 have ok3:∀R:List (Tk×Tk),okF false ((R.takeWhile (hi 3)).map Et)=true:=λR=>Oo λy hy=>by obtain⟨z,hz,rfl⟩:=List.mem_map.1 hy;have:=La 3 R z hz;omega
 intro x R hx hR
 obtain⟨t,s,h1,h2,h3⟩:=hs x R hx hR
 rcases h3 with ⟨a1,a2,rfl⟩ | ⟨a1,_⟩
 rotate_left
 · rw[ok3] at a1;cases a1
 have e:V1 en g (x::flat R)=Zz (λop=>Ky en (g (.lv 4)) op t) (Gj t) (opsOf 3) (flat (R.dropWhile (hi 3))):=by
   unfold V1 Cu;rw[h1]
 rw[e,take_split 2 R,Nk 2 R]
 cases hd:R.dropWhile (hi 3) with
 | nil =>
   refine⟨t,[],rfl,λp hp=>(by cases hp),.inl ?_⟩
   simp only[List.takeWhile_nil,List.append_nil,List.dropWhile_nil]
   exact⟨a1,a2,trivial⟩
 | cons p R2 =>
   rw[hd] at h2
   have hp:=h2 p (by simp)
   have hR2:∀p∈R2,Ra p:=λy hy=>h2 y (by simp[hy])
   have hle:=Pj 2 R p R2 hd
   have e1:Zz (λop=>Ky en (g (.lv 4)) op t) (Gj t) (opsOf 3) (flat (p::R2))=if Et p=2 then Ky en (g (.lv 4)) p.1.text t (p.2::flat R2) else some (.inl t,flat (p::R2)):=Yx.2.2.1 p.1 (p.2::flat R2) _ _ hp.1
   rw[e1]
   by_cases hp2:Et p=2
   rotate_left
   · have hlt:hi 2 p=false:=decide_eq_false (by omega)
     rw[if_neg hp2]
     refine⟨t,p::R2,rfl,h2,.inl ?_⟩
     rw[List.takeWhile_cons,List.dropWhile_cons,hlt]
     simp only[Bool.false_eq_true,if_false,List.append_nil]
     exact⟨a1,a2,trivial⟩
   rw[if_pos hp2]
   obtain⟨b,r,s,b1,b2,b3,b4⟩:=kK (en:=en) hs hp hR2 t
   rcases b4 with ⟨c1,c2,rfl⟩ | ⟨c1,_⟩
   rotate_left
   · rw[ok3] at c1;cases c1
   have xI:hi 2 p=true:=decide_eq_true (by omega)
   have htk:(p::R2).takeWhile (hi 2)=p::(R2.takeWhile (hi 3)++(R2.dropWhile (hi 3)).takeWhile (hi 2)):=by
     rw[List.takeWhile_cons,xI,<- take_split];rfl
   have hdr:(p::R2).dropWhile (hi 2)=(R2.dropWhile (hi 3)).dropWhile (hi 2):=by
     rw[List.dropWhile_cons,xI,<- Nk];rfl
   rw[b1,htk,hdr]
   have hT1:=La 3 R
   have hT2:=La 3 R2
   have hch:Ch x.text (pr (R.takeWhile (hi 3)++p::R2.takeWhile (hi 3))) (GA b):=by
     have:=Ch.two (op:=p.1.text) a2 c2 (λy hy=>by obtain⟨z,hz,rfl⟩:=List.mem_map.1 hy;have:=hT1 z hz;show Et p<=Et z;omega) (λy hy=>by obtain⟨z,hz,rfl⟩:=List.mem_map.1 hy;have:=hT2 z hz;show Et p < Et z;omega)
     rw[b2]
     simpa using this
   have ZU:okF false ((R.takeWhile (hi 3)++p::R2.takeWhile (hi 3)).map Et)=true:=by
     rw[List.map_append,List.map_cons,pN (s:=Et p) (λy hy=>by obtain⟨z,hz,rfl⟩:=List.mem_map.1 hy;have:=hT1 z hz;show Et p<=Et z;omega) (λy hy=>by obtain⟨z,hz,rfl⟩:=List.mem_map.1 hy;have:=hT2 z hz;show Et p < Et z;omega),a1,c1]
     have z1:∀l:List (Tk×Tk),(∀p∈l,3<=Et p)->Lr (l.map Et)=0:=by
       intro l hl
       unfold Lr
       rw[List.countP_eq_zero]
       intro y hy
       obtain⟨z,hz,rfl⟩:=List.mem_map.1 hy
       have:=hl z hz
       simp only[beq_iff_eq];omega
     have:Lr ((R.takeWhile (hi 3)).map Et++Et p::(R2.takeWhile (hi 3)).map Et)<=1:=by
       have e1:=z1 _ hT1
       have e2:=z1 _ hT2
       unfold Lr at *
       rw[List.countP_append,List.countP_cons,e1,e2]
       split<;>omega
     rw[show decide (1 < Lr ((R.takeWhile (hi 3)).map Et++Et p::(R2.takeWhile (hi 3)).map Et))=false from decide_eq_false (by omega),Bool.and_false]
     rfl
   cases hd2:R2.dropWhile (hi 3) with
   | nil =>
     refine⟨b,[],rfl,λp hp=>(by cases hp),.inl ?_⟩
     simp only[List.takeWhile_nil,List.append_nil,List.dropWhile_nil]
     exact⟨ZU,hch,trivial⟩
   | cons p3 R3 =>
     rw[hd2] at b3
     have aOH:=Pj 2 R2 p3 R3 hd2
     by_cases h32:Et p3=2
     · have aKT:hi 2 p3=true:=decide_eq_true (by omega)
       refine⟨b,p3::R3,rfl,b3,.inr ⟨?_,p3,R3,rfl,h32⟩⟩
       rw[List.takeWhile_cons,aKT]
       simp only[if_true]
       have I2:∀y∈(R.takeWhile (hi 3)++p::(R2.takeWhile (hi 3)++p3::R3.takeWhile (hi 2))).map Et,2<=y:=by
         intro y hy
         obtain⟨z,hz,rfl⟩:=List.mem_map.1 hy
         rcases List.mem_append.1 hz with hz | hz
         · have:=hT1 z hz;omega
         · rcases List.mem_cons.1 hz with rfl | hz
           · omega
           · rcases List.mem_append.1 hz with hz | hz
             · have:=hT2 z hz;omega
             · rcases List.mem_cons.1 hz with rfl | hz
               · omega
               · exact La 2 R3 z hz
       rw[dO I2]
       have:2<=Lr ((R.takeWhile (hi 3)++p::(R2.takeWhile (hi 3)++p3::R3.takeWhile (hi 2))).map Et):=by
         have q1:(Et p == 2)=true:=by rw[show Et p=2 from hp2];rfl
         have q2:(Et p3 == 2)=true:=by rw[h32];rfl
         unfold Lr
         rw[List.map_append,List.map_cons,List.map_append,List.map_cons,List.countP_append,List.countP_cons,List.countP_append,List.countP_cons,q1,q2]
         simp only[if_true];omega
       exact decide_eq_false (by simp only[Bool.false_eq_true,if_false];omega)
     · have hlt:hi 2 p3=false:=decide_eq_false (by omega)
       refine⟨b,p3::R3,rfl,b3,.inl ?_⟩
       rw[List.takeWhile_cons,List.dropWhile_cons,hlt]
       simp only[Bool.false_eq_true,if_false,List.append_nil]
       exact⟨ZU,hch,trivial⟩
theorem alR{g:Ek->Rd Nd}:Rb 5 (V0 en g):=by
 intro x R hx hR
 have hn:∀p:Tk×Tk,hi 5 p=false:=λp=>decide_eq_false (by have:=aqR p.1.text;show ¬5<=E4 _;omega)
 have ht:R.takeWhile (hi 5)=[]/\R.dropWhile (hi 5)=R:=by
   cases R with
   | nil=>exact⟨rfl,rfl⟩
   | cons p R=>rw[List.takeWhile_cons,List.dropWhile_cons,hn];exact⟨rfl,rfl⟩
 rw[ht.1,ht.2]
 refine⟨Ee 12 x.text bE 0 [] x.AU,R,?_,hR,.inl ⟨rfl,?_,rfl⟩⟩
 · unfold V0 Wj
   dsimp only
   rw[hx.1,Pk (a:=1) (b:=3) (by decide),Pk (a:=1) (b:=2) (by decide)]
   unfold Lh
   rw[cond,cond,hx.2.1]
   rfl
 · have:GA (Ee 12 x.text bE 0 [] x.AU)=aER x.text:=by unfold Ee;rw[J8];rfl
   rw[this]
   exact .one _
theorem ayZ{g:Ek->Rd Nd}(hs:Rb 2 (g (.lv 3))):Rb 2 (WA en g):=by
 intro x R hx hR
 obtain⟨t,s,h1,h2⟩:=hs x R hx hR
 refine⟨t,s,?_,h2⟩
 unfold WA
 rw[show Ji SG (x::flat R)=false from hx.2.2]
 exact h1
theorem aCE(n:Nat):Rb 0 ((gP en (n+9)).1 .ex):=by
 have l6:Rb 5 ((gP en (n+2)).1 (.lv 6)):=alR (en:=en) (g:=(gP en n).1)
 have l5:Rb 4 ((gP en (n+3)).1 (.lv 5)):=Uy (en:=en) Yx.2.2.2.2 (by decide) l6
 have l4:Rb 3 ((gP en (n+4)).1 (.lv 4)):=Uy (en:=en) Yx.2.2.2.1 (by decide) l5
 have l3:Rb 2 ((gP en (n+5)).1 (.lv 3)):=amF (en:=en) l4
 have l2:Rb 2 ((gP en (n+6)).1 (.lv 2)):=ayZ (en:=en) l3
 have l1:Rb 1 ((gP en (n+7)).1 (.lv 1)):=Uy (en:=en) Yx.2.1 (by decide) l2
 have l0:Rb 0 ((gP en (n+8)).1 (.lv 0)):=Uy (en:=en) Yx.1 (by decide) l1
 exact l0
theorem awI{x:Tk}{R:List (Tk×Tk)}(hx:rE x)(hR:∀p∈R,Ra p):∃t s,Q8 en (x::flat R)=some (.inl t,flat s) /\
   ((okF false (R.map Et)=true/\Ch x.text (pr R) (GA t)/\s=[])\/(okF false (R.map Et)=false/\∃p s',s=p::s')):=by
 have ht:R.takeWhile (hi 0)=R/\R.dropWhile (hi 0)=[]:=by
   induction R with
   | nil=>exact⟨rfl,rfl⟩
   | cons p R ih =>
     have:=ih (λy hy=>hR y (by simp[hy]))
     have h0:hi 0 p=true:=decide_eq_true (Nat.zero_le _)
     rw[List.takeWhile_cons,List.dropWhile_cons,h0,if_pos rfl,if_pos rfl,this.1,this.2]
     exact⟨rfl,rfl⟩
 obtain⟨t,s,h1,_,h3⟩:=aCE (en:=en) (10*(x::flat R).length+2) x R hx hR
 rw[ht.1,ht.2] at h3
 refine⟨t,s,h1,?_⟩
 rcases h3 with h3 | ⟨h3,p,s',h4,_⟩
 · exact .inl h3
 · exact .inr ⟨h3,p,s',h4⟩
end
end Mo
end Go.Proofs.YtpbkhogolfegfaaGreatDoor
namespace Go.Proofs.YtpbkhogolfegfaaGreatDoor
open AI Go LexS
namespace Mo
set_option maxRecDepth 100000
set_option maxHeartbeats 4000000
def agH(k:Nat)(x:List UInt8):Bool:=decide (Em x=[(k,x,0)])&&decide (k≠0)
theorem Yv{k:Nat}{x:List UInt8}(h:agH k x=true)(o:Nat):avO (k,x,o):=by
 unfold agH at h
 rw[Bool.and_eq_true] at h
 have h1:=of_decide_eq_true h.1
 have h2:=of_decide_eq_true h.2
 have:=qZ x (by rw[h1];intro y hy;rw[List.mem_singleton.1 hy];exact h2) (k,x,0) (by rw[h1];exact List.mem_singleton.2 rfl)
 exact this
def opK(x:ByteArray):Nat:=if x=Sf\/x=J2\/x=Vf then 1 else 6
theorem aoS:(MD.all λx=>agH (opK x) x.data.toList)=true:=by decide
def fP(i:Nat):ByteArray:=Oa [(w8 (BK 98 ((i:Nat):Int)))]
def RM(x:ByteArray):Bool:=agH 1 x.data.toList&&(match BT ⟨1,x,0⟩ with | some b=>b | none=>false)&&!BS x.data.toList SG.data.toList&&decide (x.data.toList.length=1)
theorem afW:((List.range 13).all λi=>RM (fP i))=true:=by kernel_rfl
theorem avQ:RM aS=true:=by kernel_rfl
theorem Pw{x:ByteArray}(h:RM x=true):agH 1 x.data.toList=true/\(∀o,rE ⟨1,x,o⟩)/\x.data.toList.length=1:=by
 unfold RM at h
 simp only[Bool.and_eq_true,decide_eq_true_eq,Bool.not_eq_true'] at h
 obtain⟨⟨⟨h1,h2⟩,h3⟩,h4⟩:=h
 refine⟨h1,λo=>⟨rfl,?_,h3⟩,h4⟩
 have e:BT ⟨1,x,o⟩=BT ⟨1,x,0⟩:=rfl
 rw[e]
 split at h2
 · rename_i b hb;rw[hb,h2]
 · cases h2
theorem pG{i:Nat}(h:i < 13):RM (fP i)=true:=List.all_eq_true.1 afW i (List.mem_range.2 h)
def opAt(z:Int):ByteArray:=(IA [Sf,J2,EU,Fw,GP,D0,Gf,Dk,K6,Jl,MY,Vf] (U2 (w64 z) 12)).getD Sf
theorem pO{z:Int}(h:0<=z/\z<=255):IA [Sf,J2,EU,Fw,GP,D0,Gf,Dk,K6,Jl,MY,Vf] (U2 (w64 z) 12)=some (opAt z)/\opAt z∈MD/\(opAt z).data.toList.length<=3:=by
 have e:w64 z=z:=eZ (by omega)
 have h6:U2 z 12=z % 12:=Int.tmod_eq_emod_of_nonneg h.1
 have hlt:0<=z % 12/\z % 12 < 12:=by omega
 unfold opAt
 rw[e,h6]
 generalize z % 12=m at *
 obtain⟨k,rfl⟩:=Int.eq_ofNat_of_zero_le hlt.1
 have hk:k < 12:=by omega
 rw[show((k:Nat):Int)=Int.ofNat k from rfl]
 show IA MD ((k:Nat):Int)=some ((IA MD ((k:Nat):Int)).getD Sf)/\(IA MD ((k:Nat):Int)).getD Sf∈MD/\((IA MD ((k:Nat):Int)).getD Sf).data.toList.length<=3
 rw[acY,List.getElem?_eq_getElem (show k < MD.length from hk)]
 refine⟨rfl,List.getElem_mem _,?_⟩
 have:∀x∈MD,x.data.toList.length<=3:=by decide
 exact this _ (List.getElem_mem _)
def fR:Nat->List Int->List (ByteArray×ByteArray)
 | _,[]=>[]
 | i,z::l=>(opAt z,fP i)::fR (i+1) l
def zJ:List (ByteArray×ByteArray)->List UInt8
 | []=>[]
 | p::S=>32::(p.1.data.toList++32::(p.2.data.toList++zJ S))
theorem Cg(a b:ByteArray):(a++b).data.toList=a.data.toList++b.data.toList:=by rw[ByteArray.data_append,Array.toList_append]
theorem jH{EB:List Int}(hp:∀x∈EB,0<=x/\x<=255){i:Nat}{z:Int}(hi:i < 12)(hz:EB[i]?=some z)(ns:List ByteArray)(tx:ByteArray)(os:List ByteArray)(hn:ns.length<=1000)(ho:os.length<=1000)(ht:tx.data.toList.length<=1000) :
   ∃tx',Cr EB i ns tx os=some (.nx (ns++[fP i],tx',os++[opAt z]))/\tx'.data.toList=tx.data.toList++zJ [(opAt z,fP i)]/\tx'.data.toList.length<=tx.data.toList.length+10:=by
 obtain⟨h1,h2,h3⟩:=pO (hp z (List.mem_of_getElem? hz))
 have h4:=(Pw (pG (i:=i) (by omega))).2.2
 have h20:(HU).data.toList=[32]:=rfl
 refine⟨tx++(((HU++opAt z)++HU)++fP i),?_,?_,?_⟩
 · unfold Cr
   rw[hz,Option.bind_some,h1,Option.bind_some,EK (by omega),EK (by omega)]
   show Lk _ (Lk _ (Lk (_+(fP i).data.toList.length) (Lk (_+(((HU++opAt z)++HU)++fP i).data.toList.length) _)))=_
   rw[Hw (by rw[h20];simp only[List.length_singleton];omega),Hw (by rw[Cg,h20];simp only[List.length_append,List.length_singleton];omega),Hw (by rw[Cg,Cg,h20];simp only[List.length_append,List.length_singleton];omega),Hw (by rw[Cg,Cg,Cg,h20];simp only[List.length_append,List.length_singleton];omega)]
   rfl
 · rw[Cg,Cg,Cg,Cg,h20]
   simp[zJ]
 · rw[Cg,Cg,Cg,Cg,h20]
   simp only[List.length_append,List.length_singleton];omega
theorem afE{EB:List Int}(hp:∀x∈EB,0<=x/\x<=255)(hl:EB.length<=12):∀(d i:Nat) (ns:List ByteArray) (tx:ByteArray) (os:List ByteArray),i+d=EB.length->ns.length<=100+i->os.length<=100+i->tx.data.toList.length<=100+10*i ->
   ∃tx',cB (ρ:=Bool) (λi (x:List ByteArray×ByteArray×List ByteArray)=>Cr EB i x.1 x.2.1 x.2.2) (λx=>(x.1,x.2.1,x.2.2)) d i (ns,tx,os)=some (.inl (ns++(fR i (EB.drop i)).map (·.2),tx',os++(fR i (EB.drop i)).map (·.1)))/\tx'.data.toList=tx.data.toList++zJ (fR i (EB.drop i))/\tx'.data.toList.length<=300:=by
 intro d
 induction d with
 | zero =>
   intro i ns tx os hi h1 h2 h3
   rw[List.drop_eq_nil_of_le (by omega)]
   exact⟨tx,by simp[cB,fR],by simp[fR,zJ],by omega⟩
 | succ d ih =>
   intro i ns tx os hi h1 h2 h3
   rcases xQ EB i with ⟨a1,a2⟩ | ⟨z,a1,a2,a3⟩
   · omega
   obtain⟨tx1,b1,b2,b3⟩:=jH hp (by omega) a2 ns tx os (by omega) (by omega) (by omega)
   obtain⟨tx2,c1,c2,c3⟩:=ih (i+1) (ns++[fP i]) tx1 (os++[opAt z]) (by omega) (by simp only[List.length_append,List.length_singleton];omega) (by simp only[List.length_append,List.length_singleton];omega) (by omega)
   refine⟨tx2,?_,?_,c3⟩
   · show(Cr EB i ns tx os).bind _=_
     rw[b1,Option.bind_some]
     refine Eq.trans c1 ?_
     rw[a3]
     simp[fR]
   · rw[c2,b2,a3]
     simp[fR,zJ]
def glT(x:ByteArray):List (ByteArray×ByteArray)->List (LexS.Tok×List UInt8)
 | []=>[((1,x.data.toList,0),[])]
 | p::S=>((1,x.data.toList,0),[32])::((opK p.1,p.1.data.toList,0),[32])::glT p.2 S
def okP(S:List (ByteArray×ByteArray)):Prop:=∀p∈S,p.1∈MD/\RM p.2=true
theorem ZZ:∀(S:List (ByteArray×ByteArray)) (x:ByteArray),Gk (glT x S)=x.data.toList++zJ S
 | [],x=>by simp[glT,Gk,zJ]
 | p::S,x=>by
   simp only[glT,Gk,zJ]
   rw[ZZ S p.2]
   simp
theorem adG:∀(S:List (ByteArray×ByteArray)) (x:ByteArray),RM x=true->okP S->okG (glT x S)
 | [],x,hx,_=>⟨Yv (Pw hx).1 0,.inr ⟨rfl,rfl⟩,trivial⟩
 | p::S,x,hx,h=>by
   have hp:=h p (by simp)
   exact⟨Yv (Pw hx).1 0,.inl sC,Yv (List.all_eq_true.1 aoS p.1 hp.1) 0,.inl sC,adG S p.2 hp.2 λy hy=>h y (by simp[hy])⟩
theorem sF:∀(S:List (ByteArray×ByteArray)) (x:ByteArray),(glT x S).length=2*S.length+1
 | [],_=>rfl
 | p::S,x=>by
   simp only[glT,List.length_cons,sF S p.2];omega
theorem iH:∀(S:List (ByteArray×ByteArray)) (x:ByteArray) (o:Nat),RM x=true->okP S->∃R:List (Tk×Tk),(Te o (glT x S)).map Nz=(⟨1,x,(o:Int)⟩:Tk)::flat R/\pr R=S/\∀p∈R,Ra p
 | [],x,o,_,_=>⟨[],rfl,rfl,λp hp=>by cases hp⟩
 | p::S,x,o,hx,h=>by
   have hp:=h p (by simp)
   obtain⟨R,h1,h2,h3⟩:=iH S p.2 (o+x.data.toList.length+([32]:List UInt8).length+p.1.data.toList.length+([32]:List UInt8).length) hp.2 λy hy=>h y (by simp[hy])
   refine⟨(⟨(opK p.1:Nat),p.1,((o+x.data.toList.length+([32]:List UInt8).length:Nat):Int)⟩,⟨1,p.2,((o+x.data.toList.length+([32]:List UInt8).length+p.1.data.toList.length+([32]:List UInt8).length:Nat):Int)⟩)::R,?_,?_,?_⟩
   · simp only[glT,Te,List.map_cons]
     rw[h1]
     rfl
   · show(p.1,p.2)::pr R=p::S
     rw[h2]
   · intro y hy
     rcases List.mem_cons.1 hy with rfl | hy
     · exact⟨hp.1,(Pw hp.2).2.1 _⟩
     · exact h3 y hy
theorem xR{S:List (ByteArray×ByteArray)}{tx:ByteArray}(hS:okP S)(hl:S.length<=12)(ht:tx.data.toList=aS.data.toList++zJ S)(htl:tx.data.toList.length<=300) :
   (okF false (strs S)=true/\∃n t,BY tx=some (n,[])/\Ch aS S t/\GA n=t/\D7 n<=100/\Wh n)\/(okF false (strs S)=false/\∃a,BY tx=some (z0,[⟨71,a⟩])):=by
 have hb:=ZZ S aS
 have hx:=aCJ (glT aS S) (adG S aS avQ hS) (by rw[hb,<- ht];omega) (by rw[sF];omega)
 rw[hb,<- ht] at hx
 have he:Uz tx=0:=by unfold Uz;rw[hx]
 obtain⟨R,r1,r2,r3⟩:=iH S aS 0 avQ hS
 have htk:FV tx=(⟨1,aS,((0:Nat):Int)⟩:Tk)::flat R:=by unfold FV;rw[hx];exact r1
 obtain⟨r,l,p1,p2⟩:=dW he
 obtain⟨t,s,e1,e2⟩:=awI (en:=((tx.data.toList.length:Nat):Int)) (x:=(⟨1,aS,((0:Nat):Int)⟩:Tk)) (R:=R) ((Pw avQ).2.1 _) r3
 rw[htk,e1] at p1
 simp only[Option.some.injEq,Prod.mk.injEq] at p1
 obtain⟨rfl,rfl⟩:=p1
 have FW:R.map Et=strs S:=by rw[<- aqS,r2]
 rw[FW,r2] at e2
 rw[p2]
 rcases e2 with ⟨a1,a2,rfl⟩ | ⟨a1,p,s',rfl⟩
 · refine .inl ⟨a1,?_⟩
   have hsz:=aiI (c:=0) e1
   simp only[List.length_cons,iC] at hsz
   have hRl:R.length=S.length:=by have:=congrArg List.length r2;simpa using this
   have hdp:=acF t
   have aKI:alQ (Sum.inl t,flat [])=(t,[]):=by
     show xU t=_
     unfold xU
     rw[if_neg (by omega)]
   have hv:=ajN (eU tx) (by rw[htk];exact e1)
   have:=cI t hv.1 (by omega)
   exact⟨t,_,by rw[aKI],a2,rfl,by omega,this.2⟩
 · exact .inr ⟨a1,_,rfl⟩
theorem agQ{EB:List Int}(hp:∀x∈EB,0<=x/\x<=255):∀(l:List Int) (i:Nat),(∀x∈l,0<=x/\x<=255)->i+l.length<=12->okP (fR i l)/\(fR i l).length=l.length
 | [],_,_,_=>⟨λp hp=>(by cases hp),rfl⟩
 | z::l,i,h,hi=>by
   simp only[List.length_cons] at hi
   obtain⟨a,b⟩:=agQ hp l (i+1) (λx hx=>h x (by simp[hx])) (by omega)
   refine⟨λp hp=>?_,by simp[fR,b]⟩
   rcases List.mem_cons.1 hp with rfl | hp
   · exact⟨(pO (h z (by simp))).2.1,pG (by omega)⟩
   · exact a p hp
theorem Vw(hh:JQ=some true)(EB:List Int)(hp:∀x∈EB,0<=x/\x<=255):FH EB=some true:=by
 unfold FH
 rw[hh,Option.bind_some]
 by_cases hl:EB.length<=12
 rotate_left
 · rw[Ny (by omega)];rfl
 rw[KZ (a:=12) (by omega),cond_false]
 have fin:∀{S:List (ByteArray×ByteArray)} {tx:ByteArray},okP S->S.length<=12->tx.data.toList=aS.data.toList++zJ S->tx.data.toList.length<=300 ->
     ((Ke (Yr aS S) (UD S)).bind λ(aaG,ZK)=>(BY tx).bind λ(aaH,U7)=>cond ZK (cond true (cond (Dr ((U7.length:Nat):Int) 0) ((GK aaH).bind λy31=>(IM y31 aaG).bind λy32=>some y32) (some false)) (some false)) (cond true (cond (Dr ((U7.length:Nat):Int) 1) ((U7[0]?).bind λx33=>cond (Dr x33.err 71) (some true) (some false)) (some false)) (some false)))=some true:=by
   intro S tx h1 h2 h3 h4
   obtain⟨t0,ht0⟩:=aBU S.length aS S (Nat.le_refl _)
   rcases xR h1 h2 h3 h4 with ⟨a1,n,t,a2,a3,a4,a5,a6⟩ | ⟨a1,a,a2⟩
   · rw[rN a3 (by omega),a1,if_pos rfl,Option.bind_some]
     dsimp only
     rw[a2,Option.bind_some]
     dsimp only[cond]
     rw[No (by simp)]
     dsimp only
     rw[agR (by omega) a6,Option.bind_some,a4,ahJ (by rw[<- a4];have:=(vC n).1;omega) (by rw[<- a4];exact auN _ a6)]
     rfl
   · rw[rN ht0 (by omega),a1,if_neg (by simp),Option.bind_some]
     dsimp only
     rw[a2,Option.bind_some]
     dsimp only[cond]
     rw[No (by simp)]
     rfl
 cases EB with
 | nil =>
   rw[KZ (by simp),cond_false]
   exact fin (S:=[]) (tx:=aS) (λp hp=>by cases hp) (by simp) (by simp[zJ]) (by decide)
 | cons z l =>
   rw[Ny (by simp only[List.length_cons];omega),cond_true]
   obtain⟨tx1,b1,b2,b3⟩:=jH hp (i:=0) (z:=z) (by omega) rfl [aS] aS [] (by simp) (by simp) (by decide)
   have hz:=pO (hp z (by simp))
   obtain⟨tx2,c1,c2,c3⟩:=afE hp hl ((z::l).length - 1) 1 ([aS]++[fP 0]) tx1 ([]++[opAt z]) (by simp only[List.length_cons];omega) (by simp) (by simp) (by have:(aS).data.toList.length=1:=rfl;omega)
   have first:∀{β:Type} (K:List ByteArray×ByteArray×List ByteArray->Option β),((((z::l)[0]?).bind λx2=>(IA [Sf,J2,EU,Fw,GP,D0,Gf,Dk,K6,Jl,MY,Vf] (U2 (w64 x2) 12)).bind λx3=>Lz ([aS].length+1) (Lz (0+1) (Lk (HU.data.toList.length+x3.data.toList.length) (Lk ((HU++x3).data.toList.length+HU.data.toList.length) (Lk (((HU++x3)++HU).data.toList.length+(Oa [98]).data.toList.length) (Lk (aS.data.toList.length+(((HU++x3)++HU)++(Oa [98])).data.toList.length) (K (([aS]++[(Oa [98])]),(aS++(((HU++x3)++HU)++(Oa [98]))),([]++[x3]))))))))))=K ([aS]++[fP 0],tx1,[]++[opAt z]):=by
     intro β K
     have h20:(HU).data.toList.length=1:=rfl
     have h98:(Oa [98]).data.toList.length=1:=rfl
     have ha:(aS).data.toList.length=1:=rfl
     show(some z).bind _=_
     have h3:=hz.2.2
     rw[Option.bind_some,hz.1,Option.bind_some,EK (by simp),EK (by omega),Hw (by omega),Hw (by rw[Cg,List.length_append];omega),Hw (by rw[Cg,Cg,List.length_append,List.length_append];omega),Hw (by rw[Cg,Cg,Cg,List.length_append,List.length_append,List.length_append];omega)]
     have hs:Oa [98]=fP 0:=by kernel_rfl
     have htx:aS++(((HU++opAt z)++HU)++fP 0)=tx1:=by
       have e:Cr (z::l) 0 [aS] aS []=some (.nx ([aS]++[fP 0],aS++(((HU++opAt z)++HU)++fP 0),[]++[opAt z])):=by
         have hl4:=(Pw (pG (i:=0) (by omega))).2.2
         unfold Cr
         rw[show(z::l)[0]?=some z from rfl,Option.bind_some,hz.1,Option.bind_some,EK (by simp),EK (by simp)]
         show Lk _ (Lk _ (Lk (_+(fP 0).data.toList.length) (Lk (_+(((HU++opAt z)++HU)++fP 0).data.toList.length) _)))=_
         rw[Hw (by omega),Hw (by rw[Cg,List.length_append];omega),Hw (by rw[Cg,Cg,List.length_append,List.length_append];omega),Hw (by rw[Cg,Cg,Cg,List.length_append,List.length_append,List.length_append];omega)]
         rfl
       rw[b1] at e
       simp only[Option.some.injEq,Lp.nx.injEq,Prod.mk.injEq] at e
       exact e.2.1.symm
     rw[hs,htx]
   refine Eq.trans (first λx=>(Lk (z::l).length (cB (λi x=>Cr (z::l) i x.1 x.2.1 x.2.2) (λx=>(x.1,x.2.1,x.2.2)) ((z::l).length - 1) 1 x)).bind _) ?_
   rw[Hw (by omega),c1,Option.bind_some]
   have hd:(z::l).drop 1=l:=rfl
   rw[hd] at *
   dsimp only[N4]
   have hpr:=agQ hp (z::l) 0 hp (by simp only[List.length_cons] at hl ⊢;omega)
   have e1:([aS]++[fP 0])++(fR 1 l).map (·.2)=Yr aS (fR 0 (z::l)):=by simp[fR]
   have e2:([]++[opAt z])++(fR 1 l).map (·.1)=UD (fR 0 (z::l)):=by simp[fR]
   rw[e1,e2]
   refine fin hpr.1 (by rw[hpr.2];exact hl) ?_ c3
   rw[c2,b2]
   simp[fR,zJ]
end Mo
end Go.Proofs.YtpbkhogolfegfaaGreatDoor
namespace Go.Proofs.YtpbkhogolfegfaaGreatDoor
open AI Go
namespace Mo
def Wu(p:List Int)(h:∀x∈p,0<=x/\x<=255)(_:p.length<=9223372036854775807):FH p=some true:=Vw xG p h
end Mo
end Go.Proofs.YtpbkhogolfegfaaGreatDoor
