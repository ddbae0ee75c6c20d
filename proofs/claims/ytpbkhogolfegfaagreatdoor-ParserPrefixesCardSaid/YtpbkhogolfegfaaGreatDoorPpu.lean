/- Part of a proof: see the last text. -/
import Derived.Test.YtpbkhogolfegfaaGreatDoorPpt
set_option linter.unusedVariables false
set_option linter.unusedSimpArgs false
set_option linter.defProp false
noncomputable section
namespace Go.Proofs.YtpbkhogolfegfaaGreatDoor
open AI Go LexS
namespace Mo
set_option maxRecDepth 100000
set_option maxHeartbeats 4000000
section
variable {α:Type} {p:Int}
def At(p:Int)(m:Rd Nd):Prop:=∀⦃l:List Tk⦄ ⦃a:Nd⦄ ⦃s:List Tk⦄,m l=some (.inl a,s)->a.AH=p
def Lq{m:Rd α}{K:α->Rd Nd}(h:∀a,At p (K a)):At p (Ct m K):=by
 intro l b s e;rcases IB e with ⟨a,t,_,e2⟩ | ⟨d,_,e⟩
 exact h a e2;cases e
def mU{a:Nd}(h:a.AH=p):At p (FT a):=by
 intro l b s e;obtain⟨e1,rfl⟩:=KB e;cases e1;exact h
def cB{e q:Int}:At p (LX e q):=by
 intro l b s h;obtain⟨h,_⟩:=My h;cases h
def auQ{X:Option α}{K:α->Rd Nd}(h:∀a,At p (K a)):At p (Li X K):=by
 intro l a s e;obtain⟨b,_,e⟩:=IT e;exact h b e
def aAJ{en:Int}{K:Tk->Rd Nd}(h:∀t,At p (K t)):At p (TQ en K):=by
 intro l a s e;cases l with
 | nil=>cases e
 | cons t l=>exact h t e
def arR{K:Rd Nd}(h:At p K):At p (Ue K):=by
 intro l a s e;cases l with
 | nil=>cases e
 | cons t l=>exact h e
def OT{b:Bool}{A B:Rd Nd}(h1:At p A)(h2:At p B):At p (cond b A B):=by cases b;exact h2;exact h1
def mT{n:Nat}{m:Rd Nd}(h:At p m):At p (Ol n m):=λ_ _ _ e=>h (MB e).2
end
def aaC{en:Int}{mk:List Nd->Nd}{p:Int}(hm:∀l,(mk l).AH=p):∀(q:Nat) (ns:List Nd) (un am:Bool),At p (Gq en (KZ en) mk q ns un am):=by
 intro q
 induction q with
 | zero=>intro ns un am _ _ _ e;cases e
 | succ q ih =>
   intro ns un am;exact aAJ λt=>OT (Lq λc=>mT (ih _ _ _))<|OT (OT cB (Lq λc=>mT (ih _ _ _)))<|OT (OT cB (Lq λc=>mT (ih _ _ _)))<|OT (OT (arR (mU (hm _))) cB) cB
def Yk{en:Int}{t:Tk}{l s:List Tk}{n:Nd}(h:NY en (KZ en) (t::l)=some (.inl n,s)):n.AH=t.AH:=by
 unfold NY TQ at h;dsimp only at h
 have decl:OV en (t::l)=some (.inl n,s)->n.AH=t.AH:=by
   intro h;unfold OV TQ at h;dsimp only at h;refine(?_:At t.AH _) h;exact arR (Lq λm=>Lq λ_=>Lq λu=>OT (Lq λr=>auQ λn=>Lq λ_=>mU rfl) (Lq λ_=>mU rfl))
 have art:JG en (KZ en) (t::l)=some (.inl n,s)->n.AH=t.AH:=by
   intro h;unfold JG at h;rcases IB h with ⟨a,s',e1,e2⟩ | ⟨d,_,e⟩
   have ha:a=t:=by
     unfold I5 Lb TQ Li at e1;dsimp only at e1;split at e1;cases e1;rename_i b _;cases b;simp only[cond,LX] at e1;cases e1;simp only[cond,Ue,FT,Option.some.injEq,Prod.mk.injEq,Sum.inl.injEq] at e1;exact e1.1.symm
   subst ha;refine(?_:At a.AH _) e2;exact Lq (λn2=>Lq λ_=>Lq λm=>Lq λhd=>Lq λ_=>λ_ _ _ e=>aaC (p:=a.AH) (λ_=>rfl) _ _ _ _ e);cases e
 revert h;cases B2 t.text.data.toList RX.data.toList;rotate_left;exact decl;cases B2 t.text.data.toList N2.data.toList;rotate_left;exact decl;cases B2 t.text.data.toList He.data.toList;rotate_left;exact art;intro h;cases h
def Spc:List Tk->Prop
 | []=>True
 | t::s=>(1<=t.text.data.toList.length/\∀u∈s,t.AH+((t.text.data.toList.length:Nat):Int)<=u.AH)/\Spc s
def azE{t:Tk}{s:List Tk}(h:Spc (t::s)):∀u∈s,t.AH < u.AH:=λu hu=>by have:=h.1.1;have:=h.1.2 u hu;omega
def Spc.drop:∀(k:Nat) {l:List Tk},Spc l->Spc (l.drop k)
 | 0,_,h=>h
 | _+1,[],_=>trivial
 | k+1,_::_,h=>Spc.drop k h.2
def eS:∀{l m:List Tk},Spc (l++m)->∀t∈l,∀u∈m,t.AH+((t.text.data.toList.length:Nat):Int)<=u.AH
 | [],_,_,t,ht,_,_=>by cases ht
 | x::l,m,h,t,ht,u,hu=>by
   rcases List.mem_cons.1 ht with rfl | ht
   exact h.1.2 u (List.mem_append_right _ hu);exact eS (l:=l) h.2 t ht u hu
def yM:∀(n o:Nat) (t:List UInt8),(∀x∈J2 n o t,x.1≠0)->Spc ((J2 n o t).map Hi)/\∀u∈(J2 n o t).map Hi,(o:Int)<=u.AH:=by
 intro n
 induction n with
 | zero=>intro o t _;exact⟨trivial,λu hu=>(by cases hu)⟩
 | succ n ih =>
   intro o t h;unfold J2 at h ⊢;split;exact⟨trivial,λu hu=>(by cases hu)⟩;rename_i hne;rw[if_neg hne] at h;split;rename_i hz;rw[if_pos hz] at h;exact absurd rfl (h _ (List.mem_singleton.2 rfl));rename_i hz;rw[if_neg hz] at h;have hp:=LI t hz;obtain⟨h1,h2⟩:=ih (o+(A2 t).2+DP (t.drop (A2 t).2)) ((t.drop (A2 t).2).drop (DP (t.drop (A2 t).2))) (λx hx=>h x (List.mem_cons_of_mem _ hx))
   have hl:(Hi ((A2 t).1,t.take (A2 t).2,o)).text.data.toList.length=(A2 t).2:=by
     show(t.take (A2 t).2).length=_;rw[List.length_take];omega
   refine⟨⟨⟨by rw[hl];omega,λu hu=>?_⟩,h1⟩,λu hu=>?_⟩;have:=h2 u hu;rw[hl];show((o:Nat):Int)+_<=u.AH;omega;rcases List.mem_cons.1 hu with rfl | hu
   exact Int.le_refl _;have:=h2 u hu;omega
def ahT{s:ByteArray}(h:PX s=0):Spc (Bu s)/\Lo (Bu s) 0:=by
 obtain⟨_,h1,h2,_⟩:=W5 _ h;unfold Bu;rw[<- h1];obtain⟨a,b⟩:=yM s.data.toList.length (DP s.data.toList) (s.data.toList.drop (DP s.data.toList)) h2.2;exact⟨a,λu hu=>by have:=b u hu;omega⟩
section
variable {en en':Int}
def eY:∀(q:Nat) (l:List Tk) (ks kk:List Nd),Gl l->l.length<=10000->JC en q l ks []=some (kk,[])->∃new,kk=ks++new/\(∀n∈new,∃t∈l,n.AH=t.AH)/\∀t l',l=t::l'->∃n r,new=n::r/\n.AH=t.AH:=by
 intro q
 induction q with
 | zero=>intro l ks kk _ _ h;cases h
 | succ q ih =>
   intro l ks kk hg hl h;cases l with
   | nil=>cases h;exact⟨[],(List.append_nil _).symm,λn hn=>(by cases hn),λt l' h=>by cases h⟩
   | cons t l =>
     unfold JC at h;rw[GJ (by simp)] at h;dsimp only[cond] at h;split at h;cases h;rename_i n s hi;obtain⟨⟨j,hj⟩,_,hlt⟩:=K0 hg hl hi;obtain⟨new,h1,h2,_⟩:=ih s _ kk (by rw[hj];exact hg.drop j) (by have:=hlt n rfl;simp only[List.length_cons] at hl;omega) h;refine⟨n::new,by rw[h1,List.append_assoc];rfl,λm hm=>?_,λt' l' e=>?_⟩;rcases List.mem_cons.1 hm with rfl | hm
     exact⟨t,List.mem_cons_self ..,Yk hi⟩;obtain⟨u,hu,e⟩:=h2 m hm;exact⟨u,by rw[hj] at hu;exact List.mem_of_mem_drop hu,e⟩;cases e;exact⟨n,new,rfl,Yk hi⟩;have:=ahU _ _ _ _ _ h;simp at this
def apY{w:List Tk}:∀(q:Nat) (m:List Tk) (ks kk:List Nd),Gl (m++w)->(m++w).length<=10000->JC en q (m++w) ks []=some (kk,[]) ->
   (∃q1 q2 k1,JC en' q1 m ks []=some (k1,[])/\JC en q2 w k1 []=some (kk,[])) \/
   (∃q1 k1 new n r,JC en' q1 m ks []=some (k1,[⟨72,en'⟩])/\kk=ks++(new++n::r)/\(∀x∈new,∃t∈m,x.AH=t.AH)/\(∃t∈m,n.AH=t.AH)/\∀x∈r,∃j,1<=j/\∃t∈w.drop j,x.AH=t.AH):=by
 intro q
 induction q with
 | zero=>intro m ks kk _ _ h;cases h
 | succ q ih =>
   intro m ks kk hg hl h;cases m with
   | nil=>exact .inl ⟨1,q+1,ks,rfl,h⟩
   | cons t m =>
     rw[List.cons_append] at h;unfold JC at h;rw[GJ (by simp)] at h;dsimp only[cond] at h;have Wu:Gl (t::m):=λu hu=>hg u (List.mem_append_left _ hu);have hl1:(t::m).length<=10000:=by rw[List.length_append] at hl;omega
     split at h;cases h
     · rename_i n s hi
       obtain⟨r2,s2,e2,_,_⟩:=eZ (st:=true) (en:=en') (n:=(t::m).length) hl1 Wu (Nat.le_refl _);obtain⟨⟨j0,hj0⟩,_,hpr⟩:=K0 (t:=t) (l:=m++w) hg hl hi;have aBN:=Yk hi;rcases UP (S:=(·=·)) (en:=en') (en':=en) (w:=w) (b:=true) (WW (t::m)) e2 (by rw[List.cons_append];exact hi) with ⟨s1,rfl,f1,q1⟩ | ⟨hw,rfl,h3⟩
       · cases q1 with
         | l q1 =>
           have hn:=(asX q1).symm;have hs:=asD f1;subst hn hs;obtain⟨⟨j,hj⟩,_,hlt⟩:=K0 Wu hl1 e2
           have hgs:Gl (s2++w):=by
             intro u hu;rcases List.mem_append.1 hu with hu | hu
             rw[hj] at hu;exact Wu u (List.mem_of_mem_drop hu);exact hg u (List.mem_append_right _ hu)
           have hls:(s2++w).length<=10000:=by
             have:=hlt _ rfl;rw[List.length_append,List.length_cons] at hl;rw[List.length_append];omega
           have up:∀(q:Nat) (r:List Nd×List Dg),JC en' q s2 (ks++[n]) []=some r->JC en' (q+1) (t::m) ks []=some r:=by
             intro q r h;unfold JC;rw[GJ (by simp)];dsimp only[cond];rw[e2];exact h
           rcases ih s2 _ _ hgs hls h with ⟨q1,q2,k1,a1,a2⟩ | ⟨q1,k1,new,n3,r,a1,a2,a3,a4,a5⟩
           exact .inl ⟨q1+1,q2,k1,up _ _ a1,a2⟩;refine .inr ⟨q1+1,k1,n::new,n3,r,up _ _ a1,by rw[a2];simp,λx hx=>?_,?_,a5⟩;rcases List.mem_cons.1 hx with rfl | hx
           exact⟨t,List.mem_cons_self ..,aBN⟩;obtain⟨u,hu,e⟩:=a3 x hx;rw[hj] at hu;exact⟨u,List.mem_of_mem_drop hu,e⟩;obtain⟨u,hu,e⟩:=a4;rw[hj] at hu;exact⟨u,List.mem_of_mem_drop hu,e⟩
       · rcases h3 with h3 | ⟨h3,_⟩
         rotate_left;cases h3;subst h3
         have hlt:s.length < w.length:=by
           rcases Nat.lt_or_ge s.length w.length with h4 | h4
           exact h4;exfalso;obtain⟨c,c1,_,c3⟩:=amQ (en:=en) (en':=en') (st:=false) hi;have hlen:=congrArg List.length c1;simp only[List.length_cons,List.length_append] at hlen
           have hc:c=(t::m).take c.length:=by
             have:=congrArg (List.take c.length) c1;rw[List.take_left,<- List.cons_append,List.take_append_of_le_length (by simp only[List.length_cons];omega)] at this;exact this.symm
           have hs:s=(t::m).drop c.length++w:=by
             have:=congrArg (List.drop c.length) c1;rw[List.drop_left,<- List.cons_append,List.drop_append_of_le_length (by simp only[List.length_cons];omega)] at this;exact this.symm
           have hm:c++(t::m).drop c.length=t::m:=by
             conv=>lhs;arg 1;rw[hc]
             exact List.take_append_drop ..
           obtain⟨h5,_⟩:=c3 ((t::m).drop c.length) w _ _ hs (by rw[hm];exact e2);cases h5
         have hs:∃j,1<=j/\s=w.drop j:=by
           have h6:=congrArg List.length hj0;simp only[List.length_drop,List.length_cons,List.length_append] at h6;refine⟨j0 - (t::m).length,?_,?_⟩;simp only[List.length_cons];omega;rw[hj0,<- List.cons_append,List.drop_append,List.drop_eq_nil_of_le (by simp only[List.length_cons];omega),List.nil_append]
         obtain⟨j,hj1,hj⟩:=hs;obtain⟨new,b1,b2,_⟩:=eY _ _ _ _ (by intro u hu;rw[hj] at hu;exact hg u (List.mem_append_right _ (List.mem_of_mem_drop hu))) (by rw[List.length_append] at hl;omega) h;refine .inr ⟨2,ks,[],n,new,?_,by rw[b1];simp,λx hx=>(by cases hx),⟨t,List.mem_cons_self ..,aBN⟩,λx hx=>?_⟩;unfold JC;rw[GJ (by simp)];dsimp only[cond];rw[e2];rfl;obtain⟨u,hu,e⟩:=b2 x hx;exact⟨j,hj1,u,by rw[<- hj];exact hu,e⟩
     have:=ahU _ _ _ _ _ h;simp at this
end
def afJ{Bj:List Tk}{z:Nat}{s8:ByteArray}{fS:Tk}(hz:z < Bj.length)(hl:Bj.length<=100000)(hx:Bj[min (1+z) (Bj.length - 1)]?=some fS):∀(l:List Nd) (i:Nat) (b:Bool) (ks:List Nd),ks.length+l.length<=100000 ->
   C4 (λi y (x:Bool×List Nd)=>DL Bj (z:Int) s8 i y x.1 x.2) (λx=>(x.1,x.2)) l i (b,ks)=some (.inl (b||l.any λe=>CS e.AH fS.AH&&DM (1+(z:Int)) ((Bj.length:Nat):Int),ks++l.filter λe=>DM e.AH ((s8.data.toList.length:Nat):Int))):=by
 intro l
 induction l with
 | nil=>intro i b ks _;simp[C4]
 | cons e l ih =>
   intro i b ks hk;simp only[List.length_cons] at hk
   have step:DL Bj (z:Int) s8 i e b ks=some (.nx (b||(CS e.AH fS.AH&&DM (1+(z:Int)) ((Bj.length:Nat):Int)),ks++if DM e.AH ((s8.data.toList.length:Nat):Int) then [e] else [])):=by
     unfold DL;simp only[show ∀x:Option (Lp (Bool×List Nd) (Bool×List Nd) Bool),MA (ks.length+1) x=x from λx=>Gm (by omega)];rw[CY (by omega),Kh (by omega)]
     have aKB:azZ (1+(z:Int)) (((Bj.length:Nat):Int) - 1)=((min (1+z) (Bj.length - 1):Nat):Int):=by
       unfold azZ;split<;>omega
     rw[aKB,PP,hx,Option.bind_some];cases b;dsimp only[cond];cases CS e.AH fS.AH;dsimp only;cases DM e.AH ((s8.data.toList.length:Nat):Int)<;>simp
     dsimp only[Option.bind];cases DM e.AH ((s8.data.toList.length:Nat):Int)<;>simp
     dsimp only[cond];cases DM e.AH ((s8.data.toList.length:Nat):Int)<;>simp
   rw[C4];dsimp only;rw[step,Option.bind_some];have:=ih (i+1) (b||(CS e.AH fS.AH&&DM (1+(z:Int)) ((Bj.length:Nat):Int))) (ks++if DM e.AH ((s8.data.toList.length:Nat):Int) then [e] else []) (by split<;>(simp only[List.length_append,List.length_cons,List.length_nil];omega))
   refine Eq.trans this ?_;rw[List.any_cons,Bool.or_assoc,List.filter_cons,List.append_assoc];cases DM e.AH ((s8.data.toList.length:Nat):Int)<;>simp
def TA(hh:J6=some true)(source:ByteArray)(cut:Int)(hc:0<=cut/\cut<=65535):EQ source cut=some true:=by
 unfold EQ;rw[hh,Option.bind_some,aoB,Option.bind_some];dsimp only;obtain⟨n,d,hp⟩:=wT source;rw[hp,Option.bind_some];dsimp only;by_cases he:PX source=0;rotate_left;rw[Ku (by omega)];rfl;rw[IQ (by omega)];dsimp only[cond];rw[Option.bind_some];by_cases hd0:d.length=0;rotate_left;rw[GJ (by omega)];rw[Hh (by omega)];dsimp only;rw[Option.bind_some];obtain⟨gl,ll⟩:=Lc source;by_cases ht0:(Bu source).length=0;rw[IQ (by omega)];rw[Ku (by omega)];dsimp only;rcases jK hp with ⟨h1,_⟩ | ⟨_,kk,_,tt,rfl,_,zz,pp⟩
 exact absurd (List.eq_nil_of_length_eq_zero hd0) h1;have aKT:w64 cut=cut:=fD (by omega);have hz0:cut.tmod (((Bu source).length:Nat):Int)=cut % (((Bu source).length:Nat):Int):=Int.tmod_eq_emod_of_nonneg hc.1;have hzl:=Int.emod_nonneg cut (b:=(((Bu source).length:Nat):Int)) (by omega);have hzu:=Int.emod_lt_of_pos cut (b:=(((Bu source).length:Nat):Int)) (by omega);unfold Vl fE;rw[aKT,if_neg (by omega),hz0,Option.bind_some];generalize cut % (((Bu source).length:Nat):Int)=zi at *;obtain⟨z,rfl⟩:=Int.eq_ofNat_of_zero_le hzl;have hz:z < (Bu source).length:=by omega
 rw[CY (a:=1) (by omega),Kh (by omega),show(1:Int)+(z:Int) - 1=((z:Nat):Int) by omega,PP];obtain⟨tk,htk⟩:∃tk,(I9 source.data.toList).1[z]?=some tk:=⟨_,List.getElem?_eq_getElem (by unfold Bu at hz;rwa[List.length_map] at hz)⟩;have aCN:(Bu source)[z]?=some (Hi tk):=by unfold Bu;rw[List.getElem?_map,htk];rfl
 obtain⟨x1,x2⟩:=YH source.data.toList he z tk htk;have hlen:=(W5 _ he).1;have RD:(Hi tk).AH=((tk.2.2:Nat):Int):=rfl;have htx:(Hi tk).text.data.toList=tk.2.1:=rfl;rw[aCN,Option.bind_some,RD,htx,CY (by omega)];have Lv:=Ow (s:=source) (a:=0) (b:=tk.2.2+tk.2.1.length) (Nat.zero_le _) x1;rw[show(((tk.2.2:Nat)):Int)+((tk.2.1.length:Nat):Int)=((tk.2.2+tk.2.1.length:Nat):Int) by omega,show(0:Int)=((0:Nat):Int) from rfl,Lv,Option.bind_some,List.drop_zero,Nat.sub_zero];generalize hs8:(⟨(source.data.toList.take (tk.2.2+tk.2.1.length)).toArray⟩:ByteArray)=s8;have hL:s8.data.toList=source.data.toList.take (tk.2.2+tk.2.1.length):=by rw[<- hs8]
 have hL8:s8.data.toList.length=tk.2.2+tk.2.1.length:=by rw[hL,List.length_take];omega
 have he8:PX s8=0:=by unfold PX;rw[hL,x2]
 have ht8:Bu s8=(Bu source).take (z+1):=by unfold Bu;rw[hL,x2,List.map_take]
 obtain⟨k8,d8,t8,p8,z8,l8,_,ps8⟩:=pD he8;rw[p8,Option.bind_some,Option.bind_some]
 have hkl:kk.length<=2000:=by
   have:=QY kk;have:Et (G3 kk)=1+G4 kk:=rfl;omega
 have aBX:(G3 kk).kids=kk:=rfl;obtain⟨fS,dD⟩:∃x,(Bu source)[min (1+z) ((Bu source).length - 1)]?=some x:=⟨_,List.getElem?_eq_getElem (by omega)⟩;rw[aBX,R4 (by omega),List.drop_zero];have lp:=afJ (s8:=s8) hz (by omega) dD kk 0 (CS (1+(z:Int)) (((Bu source).length:Nat):Int)) [] (by simp only[List.length_nil];omega);rw[lp,Option.bind_some,List.nil_append];dsimp only[MC];obtain⟨sp,lo⟩:=ahT he;have RZ:Bu source=(Bu source).take (z+1)++(Bu source).drop (z+1):=(List.take_append_drop ..).symm;have adL:(Bu source).take (z+1)=(Bu source).take z++[Hi tk]:=by rw[List.take_add_one,aCN];rfl
 have below:∀t∈(Bu source).take (z+1),t.AH < ((s8.data.toList.length:Nat):Int):=by
   intro t ht;rw[adL] at ht;have h1:1<=tk.2.1.length:=(wG he tk (List.mem_of_getElem? htk)).2.1;rcases List.mem_append.1 ht with ht | ht
   have s2:Bu source=(Bu source).take z++(Hi tk::(Bu source).drop (z+1)):=by
     conv=>lhs;rw[RZ,adL,List.append_assoc]
     rfl
   rw[s2] at sp;have hle:=eS sp t ht (Hi tk) (List.mem_cons_self ..);rw[RD] at hle;rw[hL8];omega;rw[List.mem_singleton.1 ht,RD,hL8];omega
 have arO:∀u∈(Bu source).drop (z+1),((s8.data.toList.length:Nat):Int)<=u.AH:=by
   intro u hu;have s2:=sp;rw[RZ] at s2;have:=eS s2 (Hi tk) (by rw[adL];simp) u hu;rw[RD,htx] at this;rw[hL8];omega
 have cut:=apY (en:=((source.data.toList.length:Nat):Int)) (en':=((s8.data.toList.length:Nat):Int)) (w:=(Bu source).drop (z+1)) _ ((Bu source).take (z+1)) [] kk (by rw[<- RZ];exact gl) (by rw[<- RZ];omega) (by rw[<- RZ];exact tt);have g8:Gl (Bu s8):=(Lc s8).1;have pr:∀l:List Nd,OE (G3 l)=1+V3 l:=λ_=>by simp only[G3,OE]
 have zr:∀l:List Nd,Et (G3 l)=1+G4 l:=λ_=>rfl;rcases cut with ⟨q1,q2,k1,c1,c2⟩ | ⟨q1,k1,new,e,r,c1,c2,c3,c4,c5⟩
 rw[<- ht8] at c1;have NK:=kX c1 t8;simp only[Prod.mk.injEq] at NK;obtain⟨rfl,rfl⟩:=NK;obtain⟨aNS,n1,n2,_⟩:=eY _ _ _ _ g8 (by have:=(Lc s8).2;omega) c1;rw[List.nil_append] at n1;subst n1;have gw:Gl ((Bu source).drop (z+1)):=gl.drop _;obtain⟨aDD,m1,m2,m3⟩:=eY _ _ _ _ gw (by rw[List.length_drop];omega) c2
 have f1:k1.filter (λe=>DM e.AH ((s8.data.toList.length:Nat):Int))=k1:=List.filter_eq_self.2 λx hx=>by
   obtain⟨t,ht,e⟩:=n2 x hx;rw[ht8] at ht;exact GJ (by have:=below t ht;omega)
 have f2:aDD.filter (λe=>DM e.AH ((s8.data.toList.length:Nat):Int))=[]:=List.filter_eq_nil_iff.2 λx hx=>by
   obtain⟨t,ht,e⟩:=m2 x hx;rw[Hh (by have:=arO t ht;omega)];simp
 rw[m1,List.filter_append,f1,f2,List.append_nil]
 have oB:(CS (1+(z:Int)) (((Bu source).length:Nat):Int)||(k1++aDD).any λe=>CS e.AH fS.AH&&DM (1+(z:Int)) (((Bu source).length:Nat):Int))=true:=by
   by_cases hk:z+1=(Bu source).length;rw[IQ (by omega)];rfl;have hlt:z+1 < (Bu source).length:=by omega
   rw[show min (1+z) ((Bu source).length - 1)=z+1 by omega] at dD
   have hdr:(Bu source).drop (z+1)=fS::(Bu source).drop (z+2):=by
     rw[List.drop_eq_getElem_cons hlt];have:=List.getElem?_eq_getElem hlt;rw[dD] at this;rw[Option.some.inj this]
   obtain⟨n,r,e1,e2⟩:=m3 _ _ hdr;rw[e1,Bool.or_eq_true];right;rw[List.any_eq_true];exact⟨n,by simp,by rw[IQ e2,GJ (by omega)];rfl⟩
 rw[oB];dsimp only;have hsz:G4 k1<=G4 kk/\V3 k1<=V3 kk:=by rw[m1,UU,akY];omega
 rw[zr,pr] at *
 have avR:mS k1 []=(G3 k1,[]):=by
   unfold mS aeM;rw[zr,pr,if_neg (by omega)]
 rw[avR];dsimp only;rw[IQ (by simp),Option.bind_some];dsimp only;have:=agE (e:=G3 k1) (by rw[zr];omega) ps8;show(Kf (G3 k1) (G3 k1)).bind _=_;rw[this];rfl;rw[<- ht8] at c1;have NK:=kX c1 t8;simp only[Prod.mk.injEq] at NK;obtain⟨rfl,rfl⟩:=NK;rw[List.nil_append] at c2;have avR:mS k1 [(⟨72,((s8.data.toList.length:Nat):Int)⟩:Dg)]=(z0,[⟨72,((s8.data.toList.length:Nat):Int)⟩]):=rfl;rw[avR];by_cases hk:z+1=(Bu source).length
 -- nothing aNR behind the cut: then the whole aNG have had the error
 have hdr:(Bu source).drop (z+1)=[]:=List.drop_eq_nil_of_le (by omega);have h2:Bu s8=Bu source:=by rw[ht8,List.take_of_length_le (by omega)]
 rw[h2] at t8;have rel:=(apZ (S:=(·=·)) _ _ (WW _) .nil rfl tt t8).2;cases rel;have hlt:z+1 < (Bu source).length:=by omega
 rw[show min (1+z) ((Bu source).length - 1)=z+1 by omega] at dD
 have hdr:(Bu source).drop (z+1)=fS::(Bu source).drop (z+2):=by
   rw[List.drop_eq_getElem_cons hlt];have:=List.getElem?_eq_getElem hlt;rw[dD] at this;rw[Option.some.inj this]
 have hx0:=arO fS (by rw[hdr];exact List.mem_cons_self ..);have spw:=sp.drop (z+1);rw[hdr] at spw
 have hno:∀x∈kk,x.AH≠fS.AH:=by
   intro x hx;rw[c2] at hx;rcases List.mem_append.1 hx with hx | hx
   obtain⟨t,ht,e⟩:=c3 x hx;have:=below t ht;omega;rcases List.mem_cons.1 hx with rfl | hx
   obtain⟨t,ht,e⟩:=c4;have:=below t ht;omega;obtain⟨j,hj,t,ht,e⟩:=c5 x hx;obtain⟨j,rfl⟩:∃i,j=i+1:=⟨j - 1,by omega⟩;rw[hdr,List.drop_succ_cons] at ht;have:=azE spw t (List.mem_of_mem_drop ht);omega
 have oB:(CS (1+(z:Int)) (((Bu source).length:Nat):Int)||kk.any λe=>CS e.AH fS.AH&&DM (1+(z:Int)) (((Bu source).length:Nat):Int))=false:=by
   rw[Ku (by omega),Bool.false_or,List.any_eq_false];intro x hx;rw[Ku (hno x hx)];simp
 rw[oB];dsimp only;rw[IQ (by simp),Option.bind_some];dsimp only;have:QW (⟨72,((s8.data.toList.length:Nat):Int)⟩:Dg) ⟨72,((s8.data.toList.length:Nat):Int)⟩=true:=by simp[QW]
 show cond (QW _ _) _ _=_;rw[this];rfl
end Mo
end Go.Proofs.YtpbkhogolfegfaaGreatDoor
namespace Go.Proofs.YtpbkhogolfegfaaGreatDoor
open AI Go
namespace Mo
def Ux(s:ByteArray)(z:Int)(_:s.data.toList.length<=140737488351232)(h:(Lit.int .u16 z).wf=true):EQ s z=some true:=TA vV s z (by simp only[Lit.wf,Bool.and_eq_true,decide_eq_true_eq] at h;exact h)
end Mo
end Go.Proofs.YtpbkhogolfegfaaGreatDoor
