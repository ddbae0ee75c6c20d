/- Part of a proof: see the last text. -/
import Derived.Test.YtpbkhogolfegfaaGreatDoorPtt
set_option linter.unusedVariables false
set_option linter.unusedSimpArgs false
set_option linter.defProp false
noncomputable section
namespace Go.Proofs.YtpbkhogolfegfaaGreatDoor
open AI Go LexS
namespace Mo
set_option maxRecDepth 100000
set_option maxHeartbeats 4000000
section
variable {hi x en:Int}
def amw:Vx hi (Pb en):=λx _ _ _ hs hl h=>(akF _).og .ex (by simp) x hs hl h
def w8{kind:Int}:Vo hi x (PN hi x) (JE en (Pb en) kind) :=
 tH λt h1 h2=>QV (Cr (Cb (tG SZ) λl ⟨_,hl⟩=>Cb GB λ_ _=>DY λs hs=>⟨I1 h2 hl,h1,hs⟩) (Cb (amw _) λe ⟨_,h3,h4,_⟩=>Cb GB λ_ _=>DY λs hs=>⟨I1 h2 (abg ⟨h4,h3⟩),h1,hs⟩))
def ada{y:Int}{mk:List Nd->Nd}(hy:x<=y)(hm:∀l,(mk l).AF=y/\(mk l).kids=l)(hh:y<=hi):∀(q:Nat) (ns:List Nd) (un am:Bool),(∀a∈ns,y<=a.AF/\V1 hi a)->Vo hi y (PN hi x) (IN en (Pb en) mk q ns un am):=by
 intro q
 induction q with
 | zero=>intro ns un am _ _ _ _ _ _ h;cases h
 | succ q ih =>
   intro ns un am hn
   have go:∀(kind:Int) (fG eU:Bool),Vo hi y (PN hi x) (Ct (JE en (Pb en) kind) λc=>Od (ns.length+1) (IN en (Pb en) mk q (ns++[c]) fG eU)):=λkind fG eU =>
     Cb w8 λc ⟨_,h1,h2,_⟩=>VG (ih _ _ _ λa ha=>by
       rcases List.mem_append.1 ha with ha | ha
       exact hn a ha;rw[List.mem_singleton.1 ha];exact⟨h2,h1⟩)
   have fin:Vo hi y (PN hi x) (U0 (FE (mk ns))):=QV (DY λs hs=>⟨(K1 _).2 ⟨by rw[(hm ns).1];exact hh,by rw[(hm ns).1,(hm ns).2];exact hn⟩,by rw[(hm ns).1];exact hy,by rw[(hm ns).1];exact hs⟩);intro l a s hs hl h;cases l with
   | nil=>cases h
   | cons t l =>
     unfold IN Uw at h;dsimp only at h;exact Cr (go _ _ _) (Cr (Cr IT (go _ _ _)) (Cr (Cr IT (go _ _ _)) (Cr (Cr fin IT) IT))) hs hl h
def agM:Vo hi x (PN hi x) (RC en (Pb en)):=by
 intro l a s hs hl h;cases l with
 | nil=>cases h
 | cons t l =>
   unfold RC Uw at h;dsimp only at h
   have art:Vo hi x (PN hi x) (Pk en (Pb en)):=RT (λt=>t.AF) GB (λt l h=>⟨h.1,h.2.2⟩) λt ⟨_,h1,h2,_⟩=>Cb PU λn _=>Cb GB λ_ _=>Cb LV λm _=>Cb agL λhd ⟨_,h3,h4,_⟩=>Cb GB λ_ _ =>
     λ_ _ _ hs hl h=>ada h1 (λl=>⟨rfl,rfl⟩) h2 _ [hd] false false (abg ⟨h4,h3⟩) hs hl h
   exact Cr tF (Cr tF (Cr art IT)) hs hl h
end
def adW:∀(n o:Nat) (t:List UInt8) (hi:Int),((o+t.length:Nat):Int)<=hi->So hi ((J0 n o t).map OZ)/\∀u∈(J0 n o t).map OZ,(o:Int)<=u.AF:=by
 intro n
 induction n with
 | zero=>intro o t hi _;exact⟨trivial,λu hu=>(by cases hu)⟩
 | succ n ih =>
   intro o t hi h;unfold J0;split;exact⟨trivial,λu hu=>(by cases hu)⟩;split;refine⟨⟨by show((o:Nat):Int)<=hi;omega,λu hu=>(by cases hu),trivial⟩,λu hu=>?_⟩;rw[List.mem_singleton.1 hu];exact Int.le_refl _
   obtain⟨h1,h2⟩:=ih (o+(BM t).2+Ip (t.drop (BM t).2)) ((t.drop (BM t).2).drop (Ip (t.drop (BM t).2))) hi (by
     have a1:=WW (t.drop (BM t).2);have a2:=(Ux t ‹_›).2;simp only[List.length_drop] at a1 ⊢;omega)
   refine⟨⟨by show((o:Nat):Int)<=hi;omega,λu hu=>?_,h1⟩,λu hu=>?_⟩;have:=h2 u hu;show((o:Nat):Int)<=u.AF;omega;rcases List.mem_cons.1 hu with rfl | hu
   exact Int.le_refl _;have:=h2 u hu;omega
def vI:∀(l acc:List Tok),(Jo acc l).1=[]\/(Jo acc l).1=acc++l:=by
 intro l
 induction l with
 | nil=>intro acc;right;simp[Jo]
 | cons y l ih =>
   intro acc;unfold Jo;split;exact .inl rfl;split;exact .inl rfl;rcases ih (acc++[y]) with h | h
   exact .inl h;right;rw[h,List.append_assoc];rfl
def agu(s:ByteArray):So ((s.data.toList.length:Nat):Int) (Fo s)/\Lo (Fo s) 0:=by
 unfold Fo Ms;split;exact⟨trivial,λu hu=>(by cases hu)⟩;rcases vI (EM s.data.toList) [] with h | h
 rw[h];exact⟨trivial,λu hu=>(by cases hu)⟩;rw[h,List.nil_append];obtain⟨h1,h2⟩:=adW s.data.toList.length (Ip s.data.toList) (s.data.toList.drop (Ip s.data.toList)) ((s.data.toList.length:Nat):Int) (by have:=WW s.data.toList;rw[List.length_drop];omega);exact⟨h1,λu hu=>by have:=h2 u hu;omega⟩
def akx{en hi:Int}:∀(q:Nat) (l:List Tk) (ks:List Nd) (r:List Nd×List Dg),So hi l->Lo l 0->(∀k∈ks,0<=k.AF/\V1 hi k)->Q8 en q l ks []=some r->r.2=[]->Gl l->l.length<=10000->∀k∈r.1,0<=k.AF/\V1 hi k:=by
 intro q
 induction q with
 | zero=>intro l ks r _ _ _ h;cases h
 | succ q ih =>
   intro l ks r hs hl hk h hr hg hn;cases l with
   | nil=>cases h;exact hk
   | cons t l =>
     unfold Q8 at h;rw[NB (by simp)] at h;dsimp only[cond] at h;split at h;cases h;rename_i n s hi;obtain⟨⟨a1,a2,a3⟩,a4,a5⟩:=agM hs hl hi;obtain⟨⟨j,rfl⟩,_⟩:=Nf hg hn hi;refine ih _ _ _ a4 a5 (λk hm=>?_) h hr (hg.drop j) (by rw[List.length_drop];omega);rcases List.mem_append.1 hm with hm | hm
     exact hk k hm;rw[List.mem_singleton.1 hm];exact⟨a2,a1⟩
     . exfalso
       have:∀(q:Nat) (l:List Tk) (ks:List Nd) (ds:List Dg) (r:List Nd×List Dg),Q8 en q l ks ds=some r->ds.length<=r.2.length:=by
         intro q
         induction q with
         | zero=>intro l ks ds r h;cases h
         | succ q ih =>
           intro l ks ds r h;cases l with
           | nil=>cases h;exact Nat.le_refl _
           | cons t l =>
             unfold Q8 at h;cases hd:EQ ((ds.length:Nat):Int) 20 with
             | false=>rw[hd] at h;cases h;exact Nat.le_refl _
             | true =>
               rw[hd] at h;dsimp only[cond] at h;split at h;cases h;exact ih _ _ _ _ h;have:=ih _ _ _ _ h;simp only[List.length_append,List.length_singleton] at this;omega
       have:=this _ _ _ _ _ h;rw[hr] at this;simp at this
def vU:∀(q:Nat) (n:Nd) (low high:Int),DQ n<=q->DQ n<=100000->V1 high n->low<=n.AF->EU q n low high=some true:=by
 intro q
 induction q with
 | zero=>intro n _ _ h;have:=EB n;omega
 | succ q ih =>
   intro n low high hq hz ho aeM;have Oo:=EB n;have hl:=OE n.kids;obtain⟨h1,h2⟩:=(K1 n).1 ho;rw[EU,Kc,Kv aeM,Kv h1];dsimp only[cond];refine WM (by omega) (λi y hy=>?_);have hm:=List.mem_of_getElem? hy;have:=Lb hm;rw[JH,ih y _ _ (by omega) (by omega) (h2 y hm).2 (h2 y hm).1,Option.bind_some,cond_true]
def vV{n:Nd}{low high:Int}(hz:DQ n<=100000)(h:V1 high n)(hl:low<=n.AF):Kd n low high=some true:=S9 (DQ n) λq hq=>vU q n low high hq hz h hl
def ahR(n:Nd):V3 n->V3 (G8 n):=by
 refine Tn (p:=λn=>V3 n->V3 (G8 n)) (λn ih h=>?_) n;obtain⟨h1,h2⟩:=(MZ n).1 h;refine(MZ _).2 ⟨by rw[eA];exact h1,λk hk=>?_⟩;rw[Kh] at hk;obtain⟨y,hy,rfl⟩:=List.mem_map.1 hk;exact ih y hy (h2 y hy)
def Wm(hh:JG=some true)(source:ByteArray):F6 source=some true:=by
 unfold F6;rw[hh,Option.bind_some];cases EQ 6010 ((source.data.toList.length:Nat):Int) with
 | true=>rfl
 | false =>
   obtain⟨n,ds,hp⟩:=vX source;dsimp only[cond];rw[hp,Option.bind_some];dsimp only;rcases jG hp with ⟨h1,rfl,h3⟩ | ⟨rfl,ks,h1,h2,rfl,h4,h5,h6⟩
   have:0 < ds.length:=List.length_pos_iff.2 h1;rw[NB (by omega)];dsimp only;rw[dX (e:=z0) (by decide) (by rw[MZ];exact⟨by decide,λk hk=>(by cases hk)⟩),Option.bind_some];dsimp only;rw[abk (by omega)];rw[Kv (by simp)];dsimp only;have hz:GL ks<=2000:=by have:DQ (Jy ks)=1+GL ks:=rfl;omega
   obtain⟨ok,ps⟩:=Z9 h4 (by omega);have hv:=Yo h4 h5 h6;have okS:=ahL ok;have hs:=sV (Jy ks);have psS:V3 (G8 (Jy ks)):=ahR _ ps;rw[jK (by omega) ps,Option.bind_some,UM ok,Dh.2 hv,Option.bind_some];dsimp only;rw[UM okS,Dh.2 ((abO _).2 hv),Option.bind_some];dsimp only;rw[aha (by omega),Option.bind_some];dsimp only;rw[jK (by omega) psS,Option.bind_some,amm,dX (by omega) psS,Option.bind_some];dsimp only;rw[j3 (by omega),Option.bind_some,dX (by omega) psS,Option.bind_some];dsimp only;have Y3:=agu source;have hg:=PP source;have hor:=akx _ _ _ _ Y3.1 Y3.2 (λk hk=>(by cases hk)) h2 rfl hg.1 (by omega);have ho:Kd (Jy ks) 0 ((source.data.toList.length:Nat):Int)=some true:=vV (by omega) ((K1 _).2 ⟨by show(0:Int)<=_;omega,hor⟩) (Int.le_refl _);rw[ho,Option.bind_some];rfl
end Mo
end Go.Proofs.YtpbkhogolfegfaaGreatDoor
namespace Go.Proofs.YtpbkhogolfegfaaGreatDoor
open AI Go
namespace Mo
set_option maxRecDepth 100000
set_option maxHeartbeats 4000000
@[iN] def oG(s:ByteArray):Nd×List Dg:=match Pb ((s.data.toList.length:Nat):Int) (Fo s) with
 | some x=>aim x
 | none=>(z0,[])
@[iN] def ppV(s:ByteArray):Nd×List Dg:=match Q8 ((s.data.toList.length:Nat):Int) ((Fo s).length+1) (Fo s) [] [] with
 | some x=>ain x.1 x.2
 | none=>(z0,[])
def abU{s:ByteArray}(h:Vk s=0):Di s=some (oG s):=by
 obtain⟨r,l,h1,h2⟩:=rX h;unfold oG;rw[h1];exact h2
def aj1{s:ByteArray}(h:Vk s=0):CZ s=some (ppV s):=by
 obtain⟨ks,ds,h1,h2,_⟩:=dF h;unfold ppV;rw[h1];exact h2
abbrev t1:=EJ
abbrev t6:=At
def amo:JF (oG t1).1/\(oG t1).1.kind=16/\DQ (oG t1).1<=100/\Oi (oG t1).1<=30:=by
 obtain⟨r,l,h1,h2⟩:=rX (s:=t1) (by kernel_rfl);rw[abU (by kernel_rfl)] at h2;refine⟨?_,by kernel_rfl,Nat.le_of_ble_eq_true (by kernel_rfl),Nat.le_of_ble_eq_true (by kernel_rfl)⟩;have h2:=Option.some.inj h2;have hd:(oG t1).2.length=0:=by kernel_rfl
 rw[h2] at hd ⊢;cases r with
 | inr d=>cases hd
 | inl n =>
   cases l with
   | cons t l=>cases hd
   | nil =>
     have hv:=(ah5 (sW t1) h1).1;unfold aim ae6 at hd ⊢;dsimp only at hd ⊢;by_cases hc:2000 < DQ n\/40 < Oi n;rw[if_pos hc] at hd;cases hd;rw[if_neg hc];exact hv
def u7:JG=some true:=by
 obtain⟨e1,k1,z1,d1⟩:=amo;obtain⟨ok1,ps1⟩:=p6 _ e1 (by omega);have v1:okV (oG t1).1:=⟨.inr ⟨by omega,e1⟩,by omega,by omega⟩
 have v6:KH (ppV t6).1/\okV (ppV t6).1:=by
   have hp:=aj1 (s:=t6) (by kernel_rfl);have hd:(ppV t6).2.length=0:=by kernel_rfl
   rcases jG (n:=(ppV t6).1) (ds:=(ppV t6).2) hp with ⟨h,_⟩ | ⟨_,ks,_,_,h3,h4,h5,h6⟩
   exact absurd (List.eq_nil_of_length_eq_zero hd) h;rw[h3] at h5 h6 ⊢;have hz:DQ (Jy ks)=1+GL ks:=rfl;exact⟨(Z9 h4 (by omega)).1,Yo h4 h5 h6⟩
 have F4:J6 (oG t1).1=some (G8 (oG t1).1):=j3 (by omega);have hsm:Iw (G8 (oG t1).1) (G8 (oG t1).1)=some true:=dX (by have:=sV (oG t1).1;omega) (ahR _ ps1);have hv6:Dm (ppV t6).1=some true:=by rw[UM v6.1,Dh.2 v6.2]
 have hv1:Dm (G8 (oG t1).1)=some true:=by rw[UM (ahL ok1),Dh.2 ((abO _).2 v1)]
 have qU:Dm ⟨12,bM,ByteArray.empty,0,0,0,0,⟨0,[]⟩,[],0⟩=some false:=by
   rw[UM ((R5 rfl rfl).1),n4];rintro⟨⟨h,_⟩ | ⟨_,h⟩,_⟩;exact absurd h (by decide)
   . have:=((IX _).1 h).1
     unfold Sj at this;rcases this with h | h | h | h | h | h | h | h
     exact absurd h.1 (by decide);exact h.2.1.2.2.1 (by unfold qY;simp)
     all_goals exact absurd h.1 (by decide)
 have h7:(⟨16,Pj,ByteArray.empty,0,0,0,0,⟨0,[]⟩,[⟨16,KJ,ByteArray.empty,0,0,0,0,⟨0,[]⟩,[⟨11,ByteArray.empty,Ev,3,0,0,0,⟨0,[]⟩,[],0⟩,⟨12,aS,ByteArray.empty,0,0,0,0,⟨0,[]⟩,[],0⟩],0⟩,⟨15,ByteArray.empty,ByteArray.empty,0,0,0,0,⟨0,[]⟩,[⟨16,Ju,ByteArray.empty,0,0,0,0,⟨0,[]⟩,[⟨12,bS,ByteArray.empty,0,0,0,0,⟨0,[]⟩,[],0⟩,⟨12,cS,ByteArray.empty,0,0,0,0,⟨0,[]⟩,[],0⟩],0⟩],0⟩],0⟩:Nd)=G8 (oG t1).1:=by kernel_rfl
 unfold JG;rw[abU (s:=t1) (by kernel_rfl)];simp only[abU (s:=Eu) (by kernel_rfl),abU (s:=Me) (by kernel_rfl),abU (s:=BC) (by kernel_rfl),aj1 (s:=Eg) (by kernel_rfl),aj1 (s:=t6) (by kernel_rfl),Jn,Ks,Option.bind_some];rw[h7];simp only[F4,hsm,hv6,hv1,qU,Option.bind_some];show(_:Option Bool)=some true
 kernel_rfl
end Mo
end Go.Proofs.YtpbkhogolfegfaaGreatDoor
namespace Go.Proofs.YtpbkhogolfegfaaGreatDoor
open AI Go
namespace Mo
def XD(s:ByteArray)(_:s.data.toList.length<=140737488351232):F6 s=some true:=Wm u7 s
end Mo
end Go.Proofs.YtpbkhogolfegfaaGreatDoor
