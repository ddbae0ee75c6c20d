/- Part of a proof: see the last text. -/
import Derived.Test.YtpbkhogolfegfaaGreatDoorPtt
set_option linter.unusedVariables false
set_option linter.unusedSimpArgs false
set_option linter.defProp false
noncomputable section
namespace Go.Proofs.YtpbkhogolfegfaaGreatDoor
open AI Go LexS
namespace Mo
set_option maxRecDepth 100000
set_option maxHeartbeats 4000000
section
variable {hi x en:Int}
def amF:Vx hi (Pd en):=λx _ _ _ hs hl h=>(akN _).og .ex (by simp) x hs hl h
def xD{kind:Int}:Vo hi x (PN hi x) (JE en (Pd en) kind) :=
 tK λt h1 h2=>QW (Cr (Cb (tJ S0) λl ⟨_,hl⟩=>Cb GB λ_ _=>DY λs hs=>⟨I1 h2 hl,h1,hs⟩) (Cb (amF _) λe ⟨_,h3,h4,_⟩=>Cb GB λ_ _=>DY λs hs=>⟨I1 h2 (abk ⟨h4,h3⟩),h1,hs⟩))
def adh{y:Int}{mk:List Nd->Nd}(hy:x<=y)(hm:∀l,(mk l).AF=y/\(mk l).kids=l)(hh:y<=hi):∀(q:Nat) (ns:List Nd) (un am:Bool),(∀a∈ns,y<=a.AF/\V2 hi a)->Vo hi y (PN hi x) (IN en (Pd en) mk q ns un am):=by
 intro q
 induction q with
 | zero=>intro ns un am _ _ _ _ _ _ h;cases h
 | succ q ih =>
   intro ns un am hn
   have go:∀(kind:Int) (fH eV:Bool),Vo hi y (PN hi x) (Ct (JE en (Pd en) kind) λc=>Oe (ns.length+1) (IN en (Pd en) mk q (ns++[c]) fH eV)):=λkind fH eV =>
     Cb xD λc ⟨_,h1,h2,_⟩=>VH (ih _ _ _ λa ha=>by
       rcases List.mem_append.1 ha with ha | ha
       exact hn a ha;rw[List.mem_singleton.1 ha];exact⟨h2,h1⟩)
   have fin:Vo hi y (PN hi x) (U1 (FE (mk ns))):=QW (DY λs hs=>⟨(K1 _).2 ⟨by rw[(hm ns).1];exact hh,by rw[(hm ns).1,(hm ns).2];exact hn⟩,by rw[(hm ns).1];exact hy,by rw[(hm ns).1];exact hs⟩);intro l a s hs hl h;cases l with
   | nil=>cases h
   | cons t l =>
     unfold IN Ux at h;dsimp only at h;exact Cr (go _ _ _) (Cr (Cr IT (go _ _ _)) (Cr (Cr IT (go _ _ _)) (Cr (Cr fin IT) IT))) hs hl h
def agR:Vo hi x (PN hi x) (RD en (Pd en)):=by
 intro l a s hs hl h;cases l with
 | nil=>cases h
 | cons t l =>
   unfold RD Ux at h;dsimp only at h
   have art:Vo hi x (PN hi x) (Pl en (Pd en)):=RU (λt=>t.AF) GB (λt l h=>⟨h.1,h.2.2⟩) λt ⟨_,h1,h2,_⟩=>Cb PV λn _=>Cb GB λ_ _=>Cb LW λm _=>Cb agQ λhd ⟨_,h3,h4,_⟩=>Cb GB λ_ _ =>
     λ_ _ _ hs hl h=>adh h1 (λl=>⟨rfl,rfl⟩) h2 _ [hd] false false (abk ⟨h4,h3⟩) hs hl h
   exact Cr tI (Cr tI (Cr art IT)) hs hl h
end
def ad1:∀(n o:Nat) (t:List UInt8) (hi:Int),((o+t.length:Nat):Int)<=hi->So hi ((J0 n o t).map O0)/\∀u∈(J0 n o t).map O0,(o:Int)<=u.AF:=by
 intro n
 induction n with
 | zero=>intro o t hi _;exact⟨trivial,λu hu=>(by cases hu)⟩
 | succ n ih =>
   intro o t hi h;unfold J0;split;exact⟨trivial,λu hu=>(by cases hu)⟩;split;refine⟨⟨by show((o:Nat):Int)<=hi;omega,λu hu=>(by cases hu),trivial⟩,λu hu=>?_⟩;rw[List.mem_singleton.1 hu];exact Int.le_refl _
   obtain⟨h1,h2⟩:=ih (o+(BM t).2+Ip (t.drop (BM t).2)) ((t.drop (BM t).2).drop (Ip (t.drop (BM t).2))) hi (by
     have a1:=WX (t.drop (BM t).2);have a2:=(Uy t ‹_›).2;simp only[List.length_drop] at a1 ⊢;omega)
   refine⟨⟨by show((o:Nat):Int)<=hi;omega,λu hu=>?_,h1⟩,λu hu=>?_⟩;have:=h2 u hu;show((o:Nat):Int)<=u.AF;omega;rcases List.mem_cons.1 hu with rfl | hu
   exact Int.le_refl _;have:=h2 u hu;omega
def vM:∀(l acc:List Tok),(Jo acc l).1=[]\/(Jo acc l).1=acc++l:=by
 intro l
 induction l with
 | nil=>intro acc;right;simp[Jo]
 | cons y l ih =>
   intro acc;unfold Jo;split;exact .inl rfl;split;exact .inl rfl;rcases ih (acc++[y]) with h | h
   exact .inl h;right;rw[h,List.append_assoc];rfl
def agz(s:ByteArray):So ((s.data.toList.length:Nat):Int) (Fo s)/\Lo (Fo s) 0:=by
 unfold Fo Mt;split;exact⟨trivial,λu hu=>(by cases hu)⟩;rcases vM (EM s.data.toList) [] with h | h
 rw[h];exact⟨trivial,λu hu=>(by cases hu)⟩;rw[h,List.nil_append];obtain⟨h1,h2⟩:=ad1 s.data.toList.length (Ip s.data.toList) (s.data.toList.drop (Ip s.data.toList)) ((s.data.toList.length:Nat):Int) (by have:=WX s.data.toList;rw[List.length_drop];omega);exact⟨h1,λu hu=>by have:=h2 u hu;omega⟩
def akF{en hi:Int}:∀(q:Nat) (l:List Tk) (ks:List Nd) (r:List Nd×List Dg),So hi l->Lo l 0->(∀k∈ks,0<=k.AF/\V2 hi k)->Q9 en q l ks []=some r->r.2=[]->Gl l->l.length<=10000->∀k∈r.1,0<=k.AF/\V2 hi k:=by
 intro q
 induction q with
 | zero=>intro l ks r _ _ _ h;cases h
 | succ q ih =>
   intro l ks r hs hl hk h hr hg hn;cases l with
   | nil=>cases h;exact hk
   | cons t l =>
     unfold Q9 at h;rw[NC (by simp)] at h;dsimp only[cond] at h;split at h;cases h;rename_i n s hi;obtain⟨⟨a1,a2,a3⟩,a4,a5⟩:=agR hs hl hi;obtain⟨⟨j,rfl⟩,_⟩:=Ng hg hn hi;refine ih _ _ _ a4 a5 (λk hm=>?_) h hr (hg.drop j) (by rw[List.length_drop];omega);rcases List.mem_append.1 hm with hm | hm
     exact hk k hm;rw[List.mem_singleton.1 hm];exact⟨a2,a1⟩;exfalso
     have:∀(q:Nat) (l:List Tk) (ks:List Nd) (ds:List Dg) (r:List Nd×List Dg),Q9 en q l ks ds=some r->ds.length<=r.2.length:=by
       intro q
       induction q with
       | zero=>intro l ks ds r h;cases h
       | succ q ih =>
         intro l ks ds r h;cases l with
         | nil=>cases h;exact Nat.le_refl _
         | cons t l =>
           unfold Q9 at h;cases hd:EQ ((ds.length:Nat):Int) 20 with
           | false=>rw[hd] at h;cases h;exact Nat.le_refl _
           | true =>
             rw[hd] at h;dsimp only[cond] at h;split at h;cases h;exact ih _ _ _ _ h;have:=ih _ _ _ _ h;simp only[List.length_append,List.length_singleton] at this;omega
     have:=this _ _ _ _ _ h;rw[hr] at this;simp at this
def vY:∀(q:Nat) (n:Nd) (low high:Int),DQ n<=q->DQ n<=100000->V2 high n->low<=n.AF->EU q n low high=some true:=by
 intro q
 induction q with
 | zero=>intro n _ _ h;have:=EB n;omega
 | succ q ih =>
   intro n low high hq hz ho aeR;have Oq:=EB n;have hl:=OF n.kids;obtain⟨h1,h2⟩:=(K1 n).1 ho;rw[EU,Kc,Kv aeR,Kv h1];dsimp only[cond];refine WN (by omega) (λi y hy=>?_);have hm:=List.mem_of_getElem? hy;have:=Lb hm;rw[JH,ih y _ _ (by omega) (by omega) (h2 y hm).2 (h2 y hm).1,Option.bind_some,cond_true]
def vZ{n:Nd}{low high:Int}(hz:DQ n<=100000)(h:V2 high n)(hl:low<=n.AF):Kd n low high=some true:=Ta (DQ n) λq hq=>vY q n low high hq hz h hl
def ahX(n:Nd):V4 n->V4 (G8 n):=by
 refine To (p:=λn=>V4 n->V4 (G8 n)) (λn ih h=>?_) n;obtain⟨h1,h2⟩:=(M0 n).1 h;refine(M0 _).2 ⟨by rw[eB];exact h1,λk hk=>?_⟩;rw[Kh] at hk;obtain⟨y,hy,rfl⟩:=List.mem_map.1 hk;exact ih y hy (h2 y hy)
def Wo(hh:JG=some true)(source:ByteArray):F6 source=some true:=by
 unfold F6;rw[hh,Option.bind_some];cases EQ 6010 ((source.data.toList.length:Nat):Int) with
 | true=>rfl
 | false =>
   obtain⟨n,ds,hp⟩:=v8 source;dsimp only[cond];rw[hp,Option.bind_some];dsimp only;rcases jH hp with ⟨h1,rfl,h3⟩ | ⟨rfl,ks,h1,h2,rfl,h4,h5,h6⟩
   have:0 < ds.length:=List.length_pos_iff.2 h1;rw[NC (by omega)];dsimp only;rw[dY (e:=z0) (by decide) (by rw[M0];exact⟨by decide,λk hk=>(by cases hk)⟩),Option.bind_some];dsimp only;rw[abo (by omega)];rw[Kv (by simp)];dsimp only;have hz:GL ks<=2000:=by have:DQ (Jy ks)=1+GL ks:=rfl;omega
   obtain⟨ok,ps⟩:=aA h4 (by omega);have hv:=Yo h4 h5 h6;have okS:=ahR ok;have hs:=sY (Jy ks);have psS:V4 (G8 (Jy ks)):=ahX _ ps;rw[jL (by omega) ps,Option.bind_some,UN ok,Dh.2 hv,Option.bind_some];dsimp only;rw[UN okS,Dh.2 ((abS _).2 hv),Option.bind_some];dsimp only;rw[ahg (by omega),Option.bind_some];dsimp only;rw[jL (by omega) psS,Option.bind_some,amv,dY (by omega) psS,Option.bind_some];dsimp only;rw[j4 (by omega),Option.bind_some,dY (by omega) psS,Option.bind_some];dsimp only;have Y4:=agz source;have hg:=PQ source;have hor:=akF _ _ _ _ Y4.1 Y4.2 (λk hk=>(by cases hk)) h2 rfl hg.1 (by omega);have ho:Kd (Jy ks) 0 ((source.data.toList.length:Nat):Int)=some true:=vZ (by omega) ((K1 _).2 ⟨by show(0:Int)<=_;omega,hor⟩) (Int.le_refl _);rw[ho,Option.bind_some];rfl
end Mo
end Go.Proofs.YtpbkhogolfegfaaGreatDoor
namespace Go.Proofs.YtpbkhogolfegfaaGreatDoor
open AI Go
namespace Mo
set_option maxRecDepth 100000
set_option maxHeartbeats 4000000
@[iO] def oI(s:ByteArray):Nd×List Dg:=match Pd ((s.data.toList.length:Nat):Int) (Fo s) with
 | some x=>aiu x
 | none=>(z0,[])
@[iO] def ppV(s:ByteArray):Nd×List Dg:=match Q9 ((s.data.toList.length:Nat):Int) ((Fo s).length+1) (Fo s) [] [] with
 | some x=>aiv x.1 x.2
 | none=>(z0,[])
def abY{s:ByteArray}(h:Vl s=0):Di s=some (oI s):=by
 obtain⟨r,l,h1,h2⟩:=r4 h;unfold oI;rw[h1];exact h2
def aj9{s:ByteArray}(h:Vl s=0):CZ s=some (ppV s):=by
 obtain⟨ks,ds,h1,h2,_⟩:=dG h;unfold ppV;rw[h1];exact h2
abbrev t1:=EJ
abbrev t6:=At
def amx:JF (oI t1).1/\(oI t1).1.kind=16/\DQ (oI t1).1<=100/\Oj (oI t1).1<=30:=by
 obtain⟨r,l,h1,h2⟩:=r4 (s:=t1) (by kernel_rfl);rw[abY (by kernel_rfl)] at h2;refine⟨?_,by kernel_rfl,Nat.le_of_ble_eq_true (by kernel_rfl),Nat.le_of_ble_eq_true (by kernel_rfl)⟩;have h2:=Option.some.inj h2;have hd:(oI t1).2.length=0:=by kernel_rfl
 rw[h2] at hd ⊢;cases r with
 | inr d=>cases hd
 | inl n =>
   cases l with
   | cons t l=>cases hd
   | nil =>
     have hv:=(aib (sZ t1) h1).1;unfold aiu afb at hd ⊢;dsimp only at hd ⊢;by_cases hc:2000 < DQ n\/40 < Oj n;rw[if_pos hc] at hd;cases hd;rw[if_neg hc];exact hv
def vC:JG=some true:=by
 obtain⟨e1,k1,z1,d1⟩:=amx;obtain⟨ok1,ps1⟩:=qC _ e1 (by omega);have v1:okV (oI t1).1:=⟨.inr ⟨by omega,e1⟩,by omega,by omega⟩
 have v6:KH (ppV t6).1/\okV (ppV t6).1:=by
   have hp:=aj9 (s:=t6) (by kernel_rfl);have hd:(ppV t6).2.length=0:=by kernel_rfl
   rcases jH (n:=(ppV t6).1) (ds:=(ppV t6).2) hp with ⟨h,_⟩ | ⟨_,ks,_,_,h3,h4,h5,h6⟩
   exact absurd (List.eq_nil_of_length_eq_zero hd) h;rw[h3] at h5 h6 ⊢;have hz:DQ (Jy ks)=1+GL ks:=rfl;exact⟨(aA h4 (by omega)).1,Yo h4 h5 h6⟩
 have F4:J6 (oI t1).1=some (G8 (oI t1).1):=j4 (by omega);have hsm:Iw (G8 (oI t1).1) (G8 (oI t1).1)=some true:=dY (by have:=sY (oI t1).1;omega) (ahX _ ps1);have hv6:Dm (ppV t6).1=some true:=by rw[UN v6.1,Dh.2 v6.2]
 have hv1:Dm (G8 (oI t1).1)=some true:=by rw[UN (ahR ok1),Dh.2 ((abS _).2 v1)]
 have qX:Dm ⟨12,bN,ByteArray.empty,0,0,0,0,⟨0,[]⟩,[],0⟩=some false:=by
   rw[UN ((R6 rfl rfl).1),n6];rintro⟨⟨h,_⟩ | ⟨_,h⟩,_⟩;exact absurd h (by decide)
   . have:=((IX _).1 h).1
     unfold Sk at this;rcases this with h | h | h | h | h | h | h | h
     exact absurd h.1 (by decide);exact h.2.1.2.2.1 (by unfold rB;simp)
     all_goals exact absurd h.1 (by decide)
 have h7:(⟨16,Pk,ByteArray.empty,0,0,0,0,⟨0,[]⟩,[⟨16,KJ,ByteArray.empty,0,0,0,0,⟨0,[]⟩,[⟨11,ByteArray.empty,Ev,3,0,0,0,⟨0,[]⟩,[],0⟩,⟨12,aS,ByteArray.empty,0,0,0,0,⟨0,[]⟩,[],0⟩],0⟩,⟨15,ByteArray.empty,ByteArray.empty,0,0,0,0,⟨0,[]⟩,[⟨16,Ju,ByteArray.empty,0,0,0,0,⟨0,[]⟩,[⟨12,bS,ByteArray.empty,0,0,0,0,⟨0,[]⟩,[],0⟩,⟨12,cS,ByteArray.empty,0,0,0,0,⟨0,[]⟩,[],0⟩],0⟩],0⟩],0⟩:Nd)=G8 (oI t1).1:=by kernel_rfl
 unfold JG;rw[abY (s:=t1) (by kernel_rfl)];simp only[abY (s:=Eu) (by kernel_rfl),abY (s:=Mf) (by kernel_rfl),abY (s:=BC) (by kernel_rfl),aj9 (s:=Eg) (by kernel_rfl),aj9 (s:=t6) (by kernel_rfl),Jn,Ks,Option.bind_some];rw[h7];simp only[F4,hsm,hv6,hv1,qX,Option.bind_some];show(_:Option Bool)=some true
 kernel_rfl
end Mo
end Go.Proofs.YtpbkhogolfegfaaGreatDoor
namespace Go.Proofs.YtpbkhogolfegfaaGreatDoor
open AI Go
namespace Mo
def XD(s:ByteArray)(_:s.data.toList.length<=140737488351232):F6 s=some true:=Wo vC s
end Mo
end Go.Proofs.YtpbkhogolfegfaaGreatDoor
