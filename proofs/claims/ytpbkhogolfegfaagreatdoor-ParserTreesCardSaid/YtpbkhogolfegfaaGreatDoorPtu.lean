/- Part of a proof: see the last text. -/
import Derived.Test.YtpbkhogolfegfaaGreatDoorPtt
set_option linter.unusedVariables false
set_option linter.unusedSimpArgs false
set_option linter.defProp false
noncomputable section
namespace Go.Proofs.YtpbkhogolfegfaaGreatDoor
open AI Go LexS
namespace Mo
set_option maxRecDepth 100000
set_option maxHeartbeats 4000000
section
variable {hi x en:Int}
def aCL:Vx hi (OS en):=λx _ _ _ hs hl h=>(ayH _).og .ex (by simp) x hs hl h
def wR{kind:Int}:Vo hi x (PN hi x) (Js en (OS en) kind) :=
 sU λt h1 h2=>Qy (Cm (B8 (sT SC) λl ⟨_,hl⟩=>B8 Gt λ_ _=>DU λs hs=>⟨IR h2 hl,h1,hs⟩) (B8 (aCL _) λe ⟨_,h3,h4,_⟩=>B8 Gt λ_ _=>DU λs hs=>⟨IR h2 (acK ⟨h4,h3⟩),h1,hs⟩))
def agU{y:Int}{mk:List Nd->Nd}(hy:x<=y)(hm:∀l,(mk l).AF=y/\(mk l).kids=l)(hh:y<=hi):∀(q:Nat) (ns:List Nd) (un am:Bool),(∀a∈ns,y<=a.AF/\VE hi a)->Vo hi y (PN hi x) (ID en (OS en) mk q ns un am):=by
 intro q
 induction q with
 | zero=>intro ns un am _ _ _ _ _ _ h;cases h
 | succ q ih =>
   intro ns un am hn
   have go:∀(kind:Int) (dP dC:Bool),Vo hi y (PN hi x) (Cp (Js en (OS en) kind) λc=>NX (ns.length+1) (ID en (OS en) mk q (ns++[c]) dP dC)):=λkind dP dC =>
     B8 wR λc ⟨_,h1,h2,_⟩=>Vi (ih _ _ _ λa ha=>by
       rcases List.mem_append.1 ha with ha | ha
       exact hn a ha;rw[List.mem_singleton.1 ha];exact⟨h2,h1⟩)
   have fin:Vo hi y (PN hi x) (UC (Fw (mk ns))):=Qy (DU λs hs=>⟨(KO _).2 ⟨by rw[(hm ns).1];exact hh,by rw[(hm ns).1,(hm ns).2];exact hn⟩,by rw[(hm ns).1];exact hy,by rw[(hm ns).1];exact hs⟩);intro l a s hs hl h;cases l with
   | nil=>cases h
   | cons t l =>
     unfold ID Ua at h;dsimp only at h;exact Cm (go _ _ _) (Cm (Cm II (go _ _ _)) (Cm (Cm II (go _ _ _)) (Cm (Cm fin II) II))) hs hl h
def apG:Vo hi x (PN hi x) (Rc en (OS en)):=by
 intro l a s hs hl h;cases l with
 | nil=>cases h
 | cons t l =>
   unfold Rc Ua at h;dsimp only at h
   have art:Vo hi x (PN hi x) (OZ en (OS en)):=Rr (λt=>t.AF) Gt (λt l h=>⟨h.1,h.2.2⟩) λt ⟨_,h1,h2,_⟩=>B8 Pw λn _=>B8 Gt λ_ _=>B8 LG λm _=>B8 apF λhd ⟨_,h3,h4,_⟩=>B8 Gt λ_ _ =>
     λ_ _ _ hs hl h=>agU h1 (λl=>⟨rfl,rfl⟩) h2 _ [hd] false false (acK ⟨h4,h3⟩) hs hl h
   exact Cm sS (Cm sS (Cm art II)) hs hl h
end
def aiO:∀(n o:Nat) (t:List UInt8) (hi:Int),((o+t.length:Nat):Int)<=hi->So hi ((JP n o t).map OG)/\∀u∈(JP n o t).map OG,(o:Int)<=u.AF:=by
 intro n
 induction n with
 | zero=>intro o t hi _;exact⟨trivial,λu hu=>(by cases hu)⟩
 | succ n ih =>
   intro o t hi h;unfold JP;split;exact⟨trivial,λu hu=>(by cases hu)⟩;split;refine⟨⟨by show((o:Nat):Int)<=hi;omega,λu hu=>(by cases hu),trivial⟩,λu hu=>?_⟩;rw[List.mem_singleton.1 hu];exact Int.le_refl _
   obtain⟨h1,h2⟩:=ih (o+(BL t).2+Ih (t.drop (BL t).2)) ((t.drop (BL t).2).drop (Ih (t.drop (BL t).2))) hi (by
     have a1:=Wu (t.drop (BL t).2);have a2:=(Ub t ‹_›).2;simp only[List.length_drop] at a1 ⊢;omega)
   refine⟨⟨by show((o:Nat):Int)<=hi;omega,λu hu=>?_,h1⟩,λu hu=>?_⟩;have:=h2 u hu;show((o:Nat):Int)<=u.AF;omega;rcases List.mem_cons.1 hu with rfl | hu
   exact Int.le_refl _;have:=h2 u hu;omega
def uW:∀(l acc:List LexS.Tok),(Jc acc l).1=[]\/(Jc acc l).1=acc++l:=by
 intro l
 induction l with
 | nil=>intro acc;right;simp[Jc]
 | cons y l ih =>
   intro acc;unfold Jc;split;exact .inl rfl;split;exact .inl rfl;rcases ih (acc++[y]) with h | h
   exact .inl h;right;rw[h,List.append_assoc];rfl
def aoN(s:ByteArray):So ((s.data.toList.length:Nat):Int) (Ff s)/\Lo (Ff s) 0:=by
 unfold Ff Mc;split;exact⟨trivial,λu hu=>(by cases hu)⟩;rcases uW (EH s.data.toList) [] with h | h
 rw[h];exact⟨trivial,λu hu=>(by cases hu)⟩;rw[h,List.nil_append];obtain⟨h1,h2⟩:=aiO s.data.toList.length (Ih s.data.toList) (s.data.toList.drop (Ih s.data.toList)) ((s.data.toList.length:Nat):Int) (by have:=Wu s.data.toList;rw[List.length_drop];omega);exact⟨h1,λu hu=>by have:=h2 u hu;omega⟩
def axZ{en hi:Int}:∀(q:Nat) (l:List Tk) (ks:List Nd) (r:List Nd×List Dg),So hi l->Lo l 0->(∀k∈ks,0<=k.AF/\VE hi k)->QL en q l ks []=some r->r.2=[]->Gl l->l.length<=10000->∀k∈r.1,0<=k.AF/\VE hi k:=by
 intro q
 induction q with
 | zero=>intro l ks r _ _ _ h;cases h
 | succ q ih =>
   intro l ks r hs hl hk h hr hg hn;cases l with
   | nil=>cases h;exact hk
   | cons t l =>
     unfold QL at h;rw[Nl (by simp)] at h;dsimp only[cond] at h;split at h;cases h;rename_i n s hi;obtain⟨⟨a1,a2,a3⟩,a4,a5⟩:=apG hs hl hi;obtain⟨⟨j,rfl⟩,_⟩:=MW hg hn hi;refine ih _ _ _ a4 a5 (λk hm=>?_) h hr (hg.drop j) (by rw[List.length_drop];omega);rcases List.mem_append.1 hm with hm | hm
     exact hk k hm;rw[List.mem_singleton.1 hm];exact⟨a2,a1⟩
     · exfalso
       have:∀(q:Nat) (l:List Tk) (ks:List Nd) (ds:List Dg) (r:List Nd×List Dg),QL en q l ks ds=some r->ds.length<=r.2.length:=by
         intro q
         induction q with
         | zero=>intro l ks ds r h;cases h
         | succ q ih =>
           intro l ks ds r h;cases l with
           | nil=>cases h;exact Nat.le_refl _
           | cons t l =>
             unfold QL at h;cases hd:EK ((ds.length:Nat):Int) 20 with
             | false=>rw[hd] at h;cases h;exact Nat.le_refl _
             | true =>
               rw[hd] at h;dsimp only[cond] at h;split at h;cases h;exact ih _ _ _ _ h;have:=ih _ _ _ _ h;simp only[List.length_append,List.length_singleton] at this;omega
       have:=this _ _ _ _ _ h;rw[hr] at this;simp at this
def vI:∀(q:Nat) (n:Nd) (low high:Int),DM n<=q->DM n<=100000->VE high n->low<=n.AF->EN q n low high=some true:=by
 intro q
 induction q with
 | zero=>intro n _ _ h;have:=Ev n;omega
 | succ q ih =>
   intro n low high hq hz ho akM;have hsz:=Ev n;have hl:=Oi n.kids;obtain⟨h1,h2⟩:=(KO n).1 ho;rw[EN,J1,Kk akM,Kk h1];dsimp only[cond];refine Wk (by omega) (λi y hy=>?_);have hm:=List.mem_of_getElem? hy;have:=KY hm;rw[Jv,ih y _ _ (by omega) (by omega) (h2 y hm).2 (h2 y hm).1,Option.bind_some,cond_true]
def vJ{n:Nd}{low high:Int}(hz:DM n<=100000)(h:VE high n)(hl:low<=n.AF):J2 n low high=some true:=SM (DM n) λq hq=>vI q n low high hq hz h hl
def arS(n:Nd):VG n->VG (GY n):=by
 refine S1 (p:=λn=>VG n->VG (GY n)) (λn ih h=>?_) n;obtain⟨h1,h2⟩:=(MJ n).1 h;refine(MJ _).2 ⟨by rw[cO];exact h1,λk hk=>?_⟩;rw[J6] at hk;obtain⟨y,hy,rfl⟩:=List.mem_map.1 hk;exact ih y hy (h2 y hy)
def VZ(hh:Ju=some true)(source:ByteArray):FY source=some true:=by
 unfold FY;rw[hh,Option.bind_some];cases EK 6010 ((source.data.toList.length:Nat):Int) with
 | true=>rfl
 | false =>
   obtain⟨n,ds,hp⟩:=vL source;dsimp only[cond];rw[hp,Option.bind_some];dsimp only;rcases gZ hp with ⟨h1,rfl,h3⟩ | ⟨rfl,ks,h1,h2,rfl,h4,h5,h6⟩
   have:0 < ds.length:=List.length_pos_iff.2 h1;rw[Nl (by omega)];dsimp only;rw[cJ (e:=z0) (by decide) (by rw[MJ];exact⟨by decide,λk hk=>(by cases hk)⟩),Option.bind_some];dsimp only;rw[acO (by omega)];rw[Kk (by simp)];dsimp only;have hz:GD ks<=2000:=by have:DM (Jm ks)=1+GD ks:=rfl;omega
   obtain⟨ok,ps⟩:=ZD h4 (by omega);have hv:=X0 h4 h5 h6;have okS:=arN ok;have hs:=rY (Jm ks);have psS:VG (GY (Jm ks)):=arS _ ps;rw[hU (by omega) ps,Option.bind_some,Ur ok,Db.2 hv,Option.bind_some];dsimp only;rw[Ur okS,Db.2 ((adR _).2 hv),Option.bind_some];dsimp only;rw[aqE (by omega),Option.bind_some];dsimp only;rw[hU (by omega) psS,Option.bind_some,aCB,cJ (by omega) psS,Option.bind_some];dsimp only;rw[iP (by omega),Option.bind_some,cJ (by omega) psS,Option.bind_some];dsimp only;have YE:=aoN source;have hg:=Pp source;have hor:=axZ _ _ _ _ YE.1 YE.2 (λk hk=>(by cases hk)) h2 rfl hg.1 (by omega);have ho:J2 (Jm ks) 0 ((source.data.toList.length:Nat):Int)=some true:=vJ (by omega) ((KO _).2 ⟨by show(0:Int)<=_;omega,hor⟩) (Int.le_refl _);rw[ho,Option.bind_some];rfl
end Mo
end Go.Proofs.YtpbkhogolfegfaaGreatDoor
namespace Go.Proofs.YtpbkhogolfegfaaGreatDoor
open AI Go
namespace Mo
set_option maxRecDepth 100000
set_option maxHeartbeats 4000000
@[irreducible] def nI(s:ByteArray):Nd×List Dg:=match OS ((s.data.toList.length:Nat):Int) (Ff s) with
 | some x=>asW x
 | none=>(z0,[])
@[irreducible] def ppV(s:ByteArray):Nd×List Dg:=match QL ((s.data.toList.length:Nat):Int) ((Ff s).length+1) (Ff s) [] [] with
 | some x=>asX x.1 x.2
 | none=>(z0,[])
def adX{s:ByteArray}(h:UX s=0):Dd s=some (nI s):=by
 obtain⟨r,l,h1,h2⟩:=qZ h;unfold nI;rw[h1];exact h2
def awT{s:ByteArray}(h:UX s=0):CV s=some (ppV s):=by
 obtain⟨ks,ds,h1,h2,_⟩:=bV h;unfold ppV;rw[h1];exact h2
abbrev t1:=EE
abbrev t6:=At
def aCD:Jt (nI t1).1/\(nI t1).1.kind=16/\DM (nI t1).1<=100/\N3 (nI t1).1<=30:=by
 obtain⟨r,l,h1,h2⟩:=qZ (s:=t1) (by kernel_rfl);rw[adX (by kernel_rfl)] at h2;refine⟨?_,by kernel_rfl,Nat.le_of_ble_eq_true (by kernel_rfl),Nat.le_of_ble_eq_true (by kernel_rfl)⟩;have h2:=Option.some.inj h2;have hd:(nI t1).2.length=0:=by kernel_rfl
 rw[h2] at hd ⊢;cases r with
 | inr d=>cases hd
 | inl n =>
   cases l with
   | cons t l=>cases hd
   | nil =>
     have hv:=(asG (rZ t1) h1).1;unfold asW alG at hd ⊢;dsimp only at hd ⊢;by_cases hc:2000 < DM n\/40 < N3 n;rw[if_pos hc] at hd;cases hd;rw[if_neg hc];exact hv
def uN:Ju=some true:=by
 obtain⟨e1,k1,z1,d1⟩:=aCD;obtain⟨ok1,ps1⟩:=pA _ e1 (by omega);have v1:okV (nI t1).1:=⟨.inr ⟨by omega,e1⟩,by omega,by omega⟩
 have v6:Ku (ppV t6).1/\okV (ppV t6).1:=by
   have hp:=awT (s:=t6) (by kernel_rfl);have hd:(ppV t6).2.length=0:=by kernel_rfl
   rcases gZ (n:=(ppV t6).1) (ds:=(ppV t6).2) hp with ⟨h,_⟩ | ⟨_,ks,_,_,h3,h4,h5,h6⟩
   exact absurd (List.eq_nil_of_length_eq_zero hd) h;rw[h3] at h5 h6 ⊢;have hz:DM (Jm ks)=1+GD ks:=rfl;exact⟨(ZD h4 (by omega)).1,X0 h4 h5 h6⟩
 have FW:JV (nI t1).1=some (GY (nI t1).1):=iP (by omega);have hsm:Io (GY (nI t1).1) (GY (nI t1).1)=some true:=cJ (by have:=rY (nI t1).1;omega) (arS _ ps1);have hv6:Di (ppV t6).1=some true:=by rw[Ur v6.1,Db.2 v6.2]
 have hv1:Di (GY (nI t1).1)=some true:=by rw[Ur (arN ok1),Db.2 ((adR _).2 v1)]
 have pY:Di ⟨12,aD,ByteArray.empty,0,0,0,0,⟨0,[]⟩,[],0⟩=some false:=by
   rw[Ur ((RG rfl rfl).1),mW];rintro⟨⟨h,_⟩ | ⟨_,h⟩,_⟩;exact absurd h (by decide)
   · have:=((IM _).1 h).1
     unfold RY at this;rcases this with h | h | h | h | h | h | h | h
     exact absurd h.1 (by decide);exact h.2.1.2.2.1 (by unfold qD;simp)
     all_goals exact absurd h.1 (by decide)
 have h7:(⟨16,OY,ByteArray.empty,0,0,0,0,⟨0,[]⟩,[⟨16,Kv,ByteArray.empty,0,0,0,0,⟨0,[]⟩,[⟨11,ByteArray.empty,Ep,3,0,0,0,⟨0,[]⟩,[],0⟩,⟨12,aS,ByteArray.empty,0,0,0,0,⟨0,[]⟩,[],0⟩],0⟩,⟨15,ByteArray.empty,ByteArray.empty,0,0,0,0,⟨0,[]⟩,[⟨16,Jj,ByteArray.empty,0,0,0,0,⟨0,[]⟩,[⟨12,bS,ByteArray.empty,0,0,0,0,⟨0,[]⟩,[],0⟩,⟨12,cS,ByteArray.empty,0,0,0,0,⟨0,[]⟩,[],0⟩],0⟩],0⟩],0⟩:Nd)=GY (nI t1).1:=by kernel_rfl
 unfold Ju;rw[adX (s:=t1) (by kernel_rfl)];simp only[adX (s:=Eo) (by kernel_rfl),adX (s:=L1) (by kernel_rfl),adX (s:=BC) (by kernel_rfl),awT (s:=Eb) (by kernel_rfl),awT (s:=t6) (by kernel_rfl),Jb,Kh,Option.bind_some];rw[h7];simp only[FW,hsm,hv6,hv1,pY,Option.bind_some];show(_:Option Bool)=some true
 kernel_rfl
end Mo
end Go.Proofs.YtpbkhogolfegfaaGreatDoor
namespace Go.Proofs.YtpbkhogolfegfaaGreatDoor
open AI Go
namespace Mo
def Xg(s:ByteArray)(_:s.data.toList.length<=140737488351232):FY s=some true:=VZ uN s
end Mo
end Go.Proofs.YtpbkhogolfegfaaGreatDoor
