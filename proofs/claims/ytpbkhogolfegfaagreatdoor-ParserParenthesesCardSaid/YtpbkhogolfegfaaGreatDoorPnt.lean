/- Part of a proof: see the last text. -/
import Derived.Test.YtpbkhogolfegfaaGreatDoorPns
set_option linter.unusedVariables false
set_option linter.unusedSimpArgs false
set_option linter.defProp false
noncomputable section
open ByteArray renaming empty->V4
open Int renaming natCast_add->brU,toNat_natCast->biW
open List renaming drop_zero->bjJ,eq_nil_of_length_eq_zero->biP,getElem?_cons_zero->bjV,getElem?_eq_getElem->abI,getElem?_eq_none->bkC,getElem?_eq_some_iff->abH,length_cons->Yy,mem_cons->biX,mem_singleton->bjB,not_mem_nil->bkW
open Nat renaming add_zero->bkH,le_refl->aOC,le_succ->blV
open Option renaming bind_some->NF
open Option.some renaming injEq->aOE
open Prod.mk renaming injEq->biY
open Sum renaming elim->aOB
namespace Go.Proofs.YtpbkhogolfegfaaGreatDoor
open AI Go
namespace Mo
set_option maxRecDepth 100000
set_option maxHeartbeats 4000000
variable {mx:Int}
def B80:Code:=Ci Tryz.f80
def OB(s:ByteArray)(y1:Int)(i7:Int):Option (Lp Int Unit (Tk×Bool)):=cond (Dd i7 y1) ((F9 s.data.toList i7).bind λc2=>(Di ((c2.toNat:Nat):Int)).bind λy3=>cond y3 (some (.nx (Bh i7 1))) (some (.rt ((⟨0,V4,0⟩:Tk),false)))) (some (.ex ()))
def QF(s:ByteArray)(at_:Int):Option (Tk×Bool):=(Lw s at_).bind λy1=>(JI (λx=>OB  s y1 x) at_).bind (H8 (λ(_:Unit)=>(RV s at_ y1).bind λs5=>cond (Bi (Ka y1 at_) 3) (some ((⟨2,s5,at_⟩:Tk),true)) (some ((⟨2,s5,at_⟩:Tk),false))) (λv=>some v))
def gT{s:ByteArray}{at_:Int}{yR:(Tk×Bool)}(h:QF  s at_=some yR):Pure P (G mx) 80 [.zs s,.zi at_] (.E9 [.agg (OT yR.1),.zb yR.2]):=by
 apply uM h Tryz.func80;exact tH λy1 BL=>tIo (λv=>some v) 33 [5,14,20,21,32] [5,14,20,21,32] (λi7=>[(0,.zs s),(1,.zi at_),(4,.ptr 0 0),(6,.zi y1),(7,.zi i7)]) (λi7=>⟨[(0,.cells [.zi 0,.zs V4,.zi 0])],1,[],0⟩) (λ_=>[(0,.zs s),(1,.zi at_),(4,.ptr 0 0),(6,.zi y1)]) (λ_=>⟨[(0,.cells [.zi 0,.zs V4,.zi 0])],1,[],0⟩) [] 0 (sb B80 116) [.code (sb B80 15)] (λ_=>rU) NH (λ_ i7 j0=>tC (λBN=>tB λc2 qI=>tF [XU (N3 qI)]<|tP (λF6=>tF [pk]<|QK rU id) λF6=>NC rU .body) λBN=>cE rU id) λ⟨⟩ asH=>tB λs5 hs5=>tF [Q9 (MA hs5),pk]<|tC (λhb2=>tA rB .body) λhb2=>tA rB .body
def NQ  :Option (List ByteArray):=some [I4,J6,Jt,L5,Mg,Qf,Sx,Fj,Ve,BI,Ec,CX,aC,Uh,PG,CV,G3]
def Wq{yR:(List ByteArray)}(h:NQ  =some yR):Pure P (G mx) 81 [] (.sl .lost yR.length (rows stC yR)):=by
 apply uM h Tryz.func81;exact tA rU .body
def B42:Code:=Ci Tryz.f42
def PH(s:ByteArray)(at_:Int)(i0:Nat)(e0:ByteArray) :Option (Lp Unit Unit (Tk×Bool)):=(Iy s at_ e0).bind λy9=>cond y9 (some (.rt ((⟨6,e0,at_⟩:Tk),true))) (some (.nx ()))
def MS(s:ByteArray)(at_:Int):Option (Tk×Bool):=(F9 s.data.toList at_).bind λc1=>(Ee ((c1.toNat:Nat):Int)).bind λy2=>cond y2 ((K3 s at_).bind λ(Oc,GX)=>some (Oc,GX)) ((EM ((c1.toNat:Nat):Int)).bind λy4=>cond y4 ((OD s at_).bind λ(Tu,JF)=>some (Tu,JF)) ((Di ((c1.toNat:Nat):Int)).bind λy6=>cond y6 ((QF s at_).bind λ(y7a,WZ)=>some (y7a,WZ)) ((NQ).bind λy8=>(Cs y8.length (Bs (λi y x=>PH  s at_ i y ) (λx=>()) (y8.drop 0) 0 ())).bind (H8 (λ(_:Unit)=>some ((⟨0,V4,0⟩:Tk),false)) (λv=>some v)))))
def YW{s:ByteArray}{at_:Int}{yR:(Tk×Bool)}(h:MS  s at_=some yR):Pure P (G mx) 42 [.zs s,.zi at_] (.E9 [.agg (OT yR.1),.zb yR.2]):=by
 apply uM h Tryz.func42;exact tB λc1 hc1=>tF [XU (N3 hc1)]<|tP (λC5=>tW λOc GX F6=>tF [At (Wr F6)]<|tA rU .body) λC5=>tF [XU (N3 hc1)]<|tP (λKE=>tW λTu JF JR=>tF [At (aK JR)]<|tA rU .body) λKE=>tF [XU (N3 hc1)]<|tP (λMj=>tW λy7a WZ V7=>tF [At (gT V7)]<|tA rU .body) λMj=>tB λy8 S3=>tF [At (Wq S3)]<|Mc (λv=>some v) 59 [5,8,12,17,18,22,27,28,32,37,42,51] [5,8,12,17,18,22,27,28,32,37,42,51] (λi0 _=>[(0,.zs s),(1,.zi at_),(4,.ptr 0 0),(6,.sl .lost y8.length (rows stC y8)),(7,.zi ((i0:Nat):Int))]) (λ_=>⟨[(0,.cells [.zi 0,.zs V4,.zi 0])],1,[],0⟩) [0,1,6,7] [] 1 (sb B42 244) [.code (sb B42 31)] (λ_=>rU) NH (λ_ i0 e0 ⟨⟩ j0 Kz LC IR=>tF [pb (U6 LC),Fi (aQP .lost Kz)]<|tP (λVD=>tF [Fi (aQP .lost Kz)]<|NC rU .body) λVD=>tF [pi IR]<|QK rU id) λ⟨⟩ asG=>tA rB .body
def B16:Code:=Ci Tryz.f16
def CT(s:ByteArray)(Nc:(List Tk))(at6:Int):Option (Lp ((List Tk)×Int) (List Tk) ((List Tk)×Int×Int)):=cond (Dd at6 ((s.data.toList.length:Nat):Int)) (cond (Bi ((Nc.length:Nat):Int) 2000) (some (.rt ([],2,at6))) ((MS s at6).bind λ(Oc,GX)=>cond GX (Qa (Nc.length+1) ((Ki s (Bh at6 ((Oc.text.data.toList.length:Nat):Int))).bind λy5=>some (.nx ((Nc++[Oc]),y5)))) (some (.rt ([],61,at6))))) (some (.ex Nc))
def Nr(s:ByteArray):Option ((List Tk)×Int×Int):=cond (Dd 6000 ((s.data.toList.length:Nat):Int)) (some ([],2,0)) ((Ki s 0).bind λy1=>(JI (λx=>CT  s x.1 x.2) ([],y1)).bind (H8 (λ(auN:(List Tk))=>some (auN,0,0)) (λv=>some v)))
def gQ{s:ByteArray}{yR:((List Tk)×Int×Int)}(h:Nr  s=some yR):Pure P (G mx) 16 [.zs s] (.E9 [.sl .lost yR.1.length (rows OT yR.1),.zi yR.2.1,.zi yR.2.2]):=by
 apply uM h Tryz.func16;exact tC (λBN=>tA rU .body) λBN=>tH λy1 BL=>tIo (λv=>some v) 43 [8,11,17,20,27,28,29] [8,11,17,20,27,28,29] (λ(Nc,at6)=>[(0,.zs s),(5,.sl (.row 0 3) Nc.length (rows OT Nc)),(6,.zi at6)]) (λ(Nc,at6)=>⟨[],0,[(0,Nc.length)],1⟩) (λNc=>[(5,.sl (.row 0 3) Nc.length (rows OT Nc))]) (λNc=>⟨[],0,[(0,Nc.length)],1⟩) [.t 5 3] 0 (sb B16 248) [.code (sb B16 63)] (λ_=>rU) NH (λ_ ⟨Nc,at6⟩ j0=>show T _ (CT  s Nc at6) _ from tC (λGC=>tC (λJK=>NC rU .body) λJK=>tW λOc GX F6=>tF [At (YW F6)]<|(by cases GX with | true=>exact Zc<|tLA λhl4=>tF [Ue (aWK (.row 0 3) Nc [Oc] (o:=.full) (n:=1) (ns:=(OT Oc)) (fO.wn [Oc] (.r (.r (.r .nil)))) rfl rfl (by simp) (by simpa using hl4)),pk]<|tH λy5 JR=>tX rU id | false=>exact Zb<|NC rU .body)) λGC=>cE rU id) λauN aYH=>tA rB .body
def GF(s:ByteArray):Option Bool:=(Nr s).bind λ(Et,Bq,y1c)=>cond (Bi Bq 0) (some true) (some false)
def XC{s:ByteArray}{yR:Bool}(h:GF  s=some yR):Pure P (G mx) 11 [.zs s] (.zb yR):=by
 apply uM h Tryz.func11;exact tW3 λEt Bq y1c BL=>tF [At (gQ BL)]<|tC (λBN=>tA rU .body) λBN=>tA rU .body
instance {s:ByteArray}:Ht P (G mx) (GF s):=⟨λ_ h=>[At (XC h)]⟩
def B39:Code:=Ci Tryz.f39
def Uj(Jo:Nd->Int->Option Int)(C0:Int)(i0:Nat)(e0:Nd)(Nc:Int):Option (Lp Int Int Int):=cond (Dd Nc C0) ((Jo e0 (Ka C0 Nc)).bind λy1=>some (.nx (Bh Nc y1))) (some (.ex Nc))
def Ra(Jo:Nd->Int->Option Int)(n:Nd)(C0:Int):Option Int:=cond (LS C0 0) (some 0) ((Cs n.kids.length (Bs (λi y x=>Uj Jo C0 i y x) (λx=>x) (n.kids.drop 0) 0 1)).bind (H8 (λ(auM:Int)=>some auM) (λv=>some v)))
def YX(Jo:Nd->Int->Option Int)(fC:∀{n:Nd} {C0:Int} {yR:Int},Jo n C0=some yR->Pure P (G mx) 39 [.agg (CW n),.zi C0] (.zi yR)){n:Nd}{C0:Int}{yR:Int}(h:Ra Jo n C0=some yR):Pure P (G mx) 39 [.agg (CW n),.zi C0] (.zi yR):=by
 apply uM h Tryz.func39;exact tC (λBN=>tA rU .body) λBN=>Mc (λv=>some v) 33 [8,13,14,17,18] [8,13,14,17,18] (λi0 Nc=>[(1,.zi C0),(2,.ptr 0 0),(5,.zi Nc),(6,.zi ((i0:Nat):Int))]) (λNc=>⟨[(0,.cells (CW n))],1,[],0⟩) [1,2,6] [] 0 (sb B39 244) [.code (sb B39 31)] (λ_=>rU) NH (λ_ i0 e0 Nc j0 Kz LC IR=>tF [pb (U6 LC)]<|tC (λhb2=>tF [Fi (Du .lost Kz),pk]<|tB λy1 BL=>tF [At (fC BL),pk,pi IR]<|QK rU id) λhb2=>cE rU id) λauM Z7=>tA rB .body
def Gs:Nat->Nd->Int->Option Int
 | 0,_,_=>none
 | qn+1,n,C0=>Ra (Gs qn) n C0
def aL:∀qn:Nat,∀{n:Nd} {C0:Int} {yR:Int},Gs qn n C0=some yR->Pure P (G mx) 39 [.agg (CW n),.zi C0] (.zi yR):=by
 intro qn
 induction qn with
 | zero=>exact(λh=>by simp only[Gs] at h;cases h)
 | succ qn ih=>exact(λh=>YX (Gs qn) ih (by rw[Gs] at h;exact h))
def Rb(n:Nd)(C0:Int):Option Int:=evt (λqn=>Gs qn n C0)
def gW{n:Nd}{C0:Int}{yR:Int}(h:Rb n C0=some yR):Pure P (G mx) 39 [.agg (CW n),.zi C0] (.zi yR):=by
 obtain⟨qn,h⟩:=kK h;exact(aL qn) h
def Lx(n:Nd)(C0:Int):Option Bool:=(Rb n (Bh C0 1)).bind λy1=>cond (LS y1 C0) (some true) (some false)
def gY{n:Nd}{C0:Int}{yR:Bool}(h:Lx  n C0=some yR):Pure P (G mx) 13 [.agg (CW n),.zi C0] (.zb yR):=by
 apply uM h Tryz.func13;exact tF [pk]<|tB λy1 BL=>tF [At (gW BL)]<|tC (λBN=>tA rU .body) λBN=>tA rU .body
instance {n:Nd} {C0:Int}:Ht P (G mx) (Lx n C0):=⟨λ_ h=>[At (gY h)]⟩
def B17:Code:=Ci Tryz.f17
def VG(Kg:Nd->Int->Option Bool)(C0:Int)(i0:Nat)(e0:Nd) :Option (Lp Unit Unit Bool):=(Kg e0 (Ka C0 1)).bind λy1=>cond y1 (some (.nx ())) (some (.rt false))
def SB(Kg:Nd->Int->Option Bool)(n:Nd)(C0:Int):Option Bool:=cond (Dd C0 1) (some false) ((Cs n.kids.length (Bs (λi y x=>VG Kg C0 i y ) (λx=>()) (n.kids.drop 0) 0 ())).bind (H8 (λ(_:Unit)=>some true) (λv=>some v)))
def aM(Kg:Nd->Int->Option Bool)(kR:∀{n:Nd} {C0:Int} {yR:Bool},Kg n C0=some yR->Pure P (G mx) 17 [.agg (CW n),.zi C0] (.zb yR)){n:Nd}{C0:Int}{yR:Bool}(h:SB Kg n C0=some yR):Pure P (G mx) 17 [.agg (CW n),.zi C0] (.zb yR):=by
 apply uM h Tryz.func17;exact tC (λBN=>tA rU .body) λBN=>Mc (λv=>some v) 24 [4,7,12,22,23] [4,7,12,22,23] (λi0 _=>[(1,.zi C0),(2,.ptr 0 0),(5,.zi ((i0:Nat):Int))]) (λ_=>⟨[(0,.cells (CW n))],1,[],0⟩) [1,2,5] [] 0 (sb B17 116) [.code (sb B17 15)] (λ_=>rU) NH (λ_ i0 e0 ⟨⟩ j0 Kz LC IR=>tF [pb (U6 LC),Fi (Du .lost Kz),pk]<|Qg (λy1 BL=>[At (kR BL)]) (λBL=>tF [pi IR]<|QK rU id) λBL=>NC rU .body) λ⟨⟩ Z7=>tA rB .body
def Hk:Nat->Nd->Int->Option Bool
 | 0,_,_=>none
 | qn+1,n,C0=>SB (Hk qn) n C0
def gZ:∀qn:Nat,∀{n:Nd} {C0:Int} {yR:Bool},Hk qn n C0=some yR->Pure P (G mx) 17 [.agg (CW n),.zi C0] (.zb yR):=by
 intro qn
 induction qn with
 | zero=>exact(λh=>by simp only[Hk] at h;cases h)
 | succ qn ih=>exact(λh=>aM (Hk qn) ih (by rw[Hk] at h;exact h))
def SC(n:Nd)(C0:Int):Option Bool:=evt (λqn=>Hk qn n C0)
def lI{n:Nd}{C0:Int}{yR:Bool}(h:SC n C0=some yR):Pure P (G mx) 17 [.agg (CW n),.zi C0] (.zb yR):=by
 obtain⟨qn,h⟩:=kK h;exact(gZ qn) h
def OF(n:Nd):Option Bool:=(Lx n 2000).bind λy1=>cond y1 ((SC n 40).bind λy2=>some y2) (some false)
def aT{n:Nd}{yR:Bool}(h:OF  n=some yR):Pure P (G mx) 46 [.agg (CW n)] (.zb yR):=by
 apply uM h Tryz.func46;exact tP (λBL=>tB λy2 C5=>tF [At (lI C5)]<|tA rU .body) λBL=>tA rU .body
def B45:Code:=Ci Tryz.f45
def ZM(s:ByteArray)(i0:Nat)(e0:ByteArray) :Option (Lp Unit Unit Bool):=cond (BD e0.data.toList s.data.toList) (some (.rt true)) (some (.nx ()))
def Li(l:(List ByteArray))(s:ByteArray):Option Bool:=(Cs l.length (Bs (λi y x=>ZM  s i y ) (λx=>()) (l.drop 0) 0 ())).bind (H8 (λ(_:Unit)=>some false) (λv=>some v))
def MT{l:(List ByteArray)}{s:ByteArray}{yR:Bool}(h:Li  l s=some yR):Pure P (G mx) 45 [.sl .lost l.length (rows stC l),.zs s] (.zb yR):=by
 apply uM h Tryz.func45;exact Mc (λv=>some v) 18 [4,9,17] [4,9,17] (λi0 _=>[(0,.sl .lost l.length (rows stC l)),(1,.zs s),(5,.zi ((i0:Nat):Int))]) (λ_=>⟨[],0,[],0⟩) [0,1,5] [] 0 (sb B45 52) [.code (sb B45 7)] (λ_=>rU) NH (λ_ i0 e0 ⟨⟩ j0 Kz LC IR=>tF [pb (U6 LC),Fi (aQP .lost Kz)]<|tC (λBN=>NC rU .body) λBN=>tF [pi IR]<|QK rU id) λ⟨⟩ aYE=>tA rB .body
def Fu(n:Nd):Option Bool:=cond (BD n.name.data.toList V4.data.toList) (cond (BD n.unit.data.toList V4.data.toList) (cond (Bi n.n 0) (cond (Bi n.fr 0) (cond (Bi n.to 0) (cond (Bi n.known 0) (cond (Bi n.BK.den 0) (cond (Bi ((n.BK.ps.length:Nat):Int) 0) (some true) (some false)) (some false)) (some false)) (some false)) (some false)) (some false)) (some false)) (some false)
def Vh{n:Nd}{yR:Bool}(h:Fu  n=some yR):Pure P (G mx) 59 [.agg (CW n),.zi 32] (.zb yR):=by
 apply uM h Tryz.func59;exact tF [pk,pk]<|tC (λBN=>tF [pk,pk]<|tC (λhb2=>tF [pk,pk]<|tC (λhb3=>tF [pk,pk]<|tC (λGC=>tC (λJK=>tC (λKD=>tF [pk,pk]<|tC (λNF=>tC (λO6=>tF [pk,pk]<|tA rU .body) λO6=>tA rU .body) λNF=>tA rU .body) λKD=>tA rU .body) λJK=>tA rU .body) λGC=>tA rU .body) λhb3=>tA rU .body) λhb2=>tA rU .body) λBN=>tA rU .body
instance {n:Nd}:Ht P (G mx) (Fu n):=⟨λ_ h=>[At (Vh h)]⟩
def Hc(n:Nd):Option Bool:=cond (BD n.name.data.toList V4.data.toList) (cond (Bi n.fr 0) (cond (Bi n.to 0) (cond (Bi n.known 0) (cond (Bi n.BK.den 0) (cond (Bi ((n.BK.ps.length:Nat):Int) 0) (cond (Bi ((n.kids.length:Nat):Int) 0) (some true) (some false)) (some false)) (some false)) (some false)) (some false)) (some false)) (some false)
def Wv{n:Nd}{yR:Bool}(h:Hc  n=some yR):Pure P (G mx) 59 [.agg (CW n),.zi 6] (.zb yR):=by
 apply uM h Tryz.func59;exact tF [pk,pk]<|tC (λBN=>tF [pk,pk,pk,pk,pk,pk]<|tC (λhb2=>tC (λhb3=>tC (λGC=>tF [pk,pk]<|tC (λJK=>tC (λKD=>tF [pk,pk]<|tC (λNF=>tA rU .body) λNF=>tA rU .body) λKD=>tA rU .body) λJK=>tA rU .body) λGC=>tA rU .body) λhb3=>tA rU .body) λhb2=>tA rU .body) λBN=>tA rU .body
instance {n:Nd}:Ht P (G mx) (Hc n):=⟨λ_ h=>[At (Wv h)]⟩
def Hb(n:Nd):Option Bool:=cond (BD n.unit.data.toList V4.data.toList) (cond (Bi n.n 0) (cond (Bi n.fr 0) (cond (Bi n.to 0) (cond (Bi n.known 0) (cond (Bi n.BK.den 0) (cond (Bi ((n.BK.ps.length:Nat):Int) 0) (cond (Bi ((n.kids.length:Nat):Int) 0) (some true) (some false)) (some false)) (some false)) (some false)) (some false)) (some false)) (some false)) (some false)
def Ws{n:Nd}{yR:Bool}(h:Hb  n=some yR):Pure P (G mx) 59 [.agg (CW n),.zi 1] (.zb yR):=by
 apply uM h Tryz.func59;exact tF [pk,pk,pk,pk]<|tC (λBN=>tF [pk,pk]<|tC (λhb2=>tF [pk,pk]<|tC (λhb3=>tC (λGC=>tC (λJK=>tF [pk,pk]<|tC (λKD=>tC (λNF=>tF [pk,pk]<|tC (λO6=>tA rU .body) λO6=>tA rU .body) λNF=>tA rU .body) λKD=>tA rU .body) λJK=>tA rU .body) λGC=>tA rU .body) λhb3=>tA rU .body) λhb2=>tA rU .body) λBN=>tA rU .body
instance {n:Nd}:Ht P (G mx) (Hb n):=⟨λ_ h=>[At (Ws h)]⟩
def K4(n:Nd):Option Bool:=cond (BD n.name.data.toList V4.data.toList) (cond (BD n.unit.data.toList V4.data.toList) (cond (Bi n.fr 0) (cond (Bi n.to 0) (cond (Bi n.known 0) (cond (Bi n.BK.den 0) (cond (Bi ((n.BK.ps.length:Nat):Int) 0) (cond (Bi ((n.kids.length:Nat):Int) 0) (some true) (some false)) (some false)) (some false)) (some false)) (some false)) (some false)) (some false)) (some false)
def Wu{n:Nd}{yR:Bool}(h:K4  n=some yR):Pure P (G mx) 59 [.agg (CW n),.zi 4] (.zb yR):=by
 apply uM h Tryz.func59;exact tF [pk,pk]<|tC (λBN=>tF [pk,pk]<|tC (λhb2=>tF [pk,pk,pk,pk]<|tC (λhb3=>tC (λGC=>tC (λJK=>tF [pk,pk]<|tC (λKD=>tC (λNF=>tF [pk,pk]<|tC (λO6=>tA rU .body) λO6=>tA rU .body) λNF=>tA rU .body) λKD=>tA rU .body) λJK=>tA rU .body) λGC=>tA rU .body) λhb3=>tA rU .body) λhb2=>tA rU .body) λBN=>tA rU .body
def Gw(n:Nd):Option Bool:=cond (BD n.unit.data.toList V4.data.toList) (cond (Bi n.n 0) (cond (Bi n.fr 0) (cond (Bi n.to 0) (cond (Bi n.known 0) (cond (Bi n.BK.den 0) (cond (Bi ((n.BK.ps.length:Nat):Int) 0) (some true) (some false)) (some false)) (some false)) (some false)) (some false)) (some false)) (some false)
def Vi{n:Nd}{yR:Bool}(h:Gw  n=some yR):Pure P (G mx) 59 [.agg (CW n),.zi 33] (.zb yR):=by
 apply uM h Tryz.func59;exact tF [pk,pk,pk,pk]<|tC (λBN=>tF [pk,pk]<|tC (λhb2=>tF [pk,pk]<|tC (λhb3=>tC (λGC=>tC (λJK=>tF [pk,pk]<|tC (λKD=>tC (λNF=>tF [pk,pk]<|tA rU .body) λNF=>tA rU .body) λKD=>tA rU .body) λJK=>tA rU .body) λGC=>tA rU .body) λhb3=>tA rU .body) λhb2=>tA rU .body) λBN=>tA rU .body
instance {n:Nd}:Ht P (G mx) (Gw n):=⟨λ_ h=>[At (Vi h)]⟩
def Kn(n:Nd):Option Bool:=cond (BD n.name.data.toList V4.data.toList) (cond (BD n.unit.data.toList V4.data.toList) (cond (Bi n.n 0) (cond (Bi n.fr 0) (cond (Bi n.to 0) (cond (Bi n.known 0) (some true) (some false)) (some false)) (some false)) (some false)) (some false)) (some false)
def Vk{n:Nd}{yR:Bool}(h:Kn  n=some yR):Pure P (G mx) 59 [.agg (CW n),.zi 48] (.zb yR):=by
 apply uM h Tryz.func59;exact tF [pk,pk]<|tC (λBN=>tF [pk,pk]<|tC (λhb2=>tF [pk,pk]<|tC (λhb3=>tF [pk,pk]<|tC (λGC=>tC (λJK=>tC (λKD=>tF [pk,pk,pk,pk]<|tA rU .body) λKD=>tA rU .body) λJK=>tA rU .body) λGC=>tA rU .body) λhb3=>tA rU .body) λhb2=>tA rU .body) λBN=>tA rU .body
def E5(n:Nd):Option Bool:=cond (Bi n.n 0) (cond (Bi n.fr 0) (cond (Bi n.to 0) (cond (Bi n.known 0) (cond (Bi n.BK.den 0) (cond (Bi ((n.BK.ps.length:Nat):Int) 0) (cond (Bi ((n.kids.length:Nat):Int) 0) (some true) (some false)) (some false)) (some false)) (some false)) (some false)) (some false)) (some false)
def Wt{n:Nd}{yR:Bool}(h:E5  n=some yR):Pure P (G mx) 59 [.agg (CW n),.zi 3] (.zb yR):=by
 apply uM h Tryz.func59;exact tF [pk,pk,pk,pk,pk,pk]<|tC (λBN=>tF [pk,pk]<|tC (λhb2=>tC (λhb3=>tC (λGC=>tF [pk,pk]<|tC (λJK=>tC (λKD=>tF [pk,pk]<|tC (λNF=>tA rU .body) λNF=>tA rU .body) λKD=>tA rU .body) λJK=>tA rU .body) λGC=>tA rU .body) λhb3=>tA rU .body) λhb2=>tA rU .body) λBN=>tA rU .body
instance {n:Nd}:Ht P (G mx) (E5 n):=⟨λ_ h=>[At (Wt h)]⟩
def E6(n:Nd):Option Bool:=cond (Bi n.fr 0) (cond (Bi n.to 0) (cond (Bi n.known 0) (cond (Bi n.BK.den 0) (cond (Bi ((n.BK.ps.length:Nat):Int) 0) (cond (Bi ((n.kids.length:Nat):Int) 0) (some true) (some false)) (some false)) (some false)) (some false)) (some false)) (some false)
def Ww{n:Nd}{yR:Bool}(h:E6  n=some yR):Pure P (G mx) 59 [.agg (CW n),.zi 7] (.zb yR):=by
 apply uM h Tryz.func59;exact tF [pk,pk,pk,pk,pk,pk,pk,pk]<|tC (λBN=>tC (λhb2=>tC (λhb3=>tF [pk,pk]<|tC (λGC=>tC (λJK=>tF [pk,pk]<|tC (λKD=>tA rU .body) λKD=>tA rU .body) λJK=>tA rU .body) λGC=>tA rU .body) λhb3=>tA rU .body) λhb2=>tA rU .body) λBN=>tA rU .body
instance {n:Nd}:Ht P (G mx) (E6 n):=⟨λ_ h=>[At (Ww h)]⟩
def EG(n:Nd):Option Bool:=cond (BD n.unit.data.toList V4.data.toList) (cond (Bi n.fr 0) (cond (Bi n.to 0) (cond (Bi n.known 0) (cond (Bi n.BK.den 0) (cond (Bi ((n.BK.ps.length:Nat):Int) 0) (some true) (some false)) (some false)) (some false)) (some false)) (some false)) (some false)
def Vj{n:Nd}{yR:Bool}(h:EG  n=some yR):Pure P (G mx) 59 [.agg (CW n),.zi 37] (.zb yR):=by
 apply uM h Tryz.func59;exact tF [pk,pk,pk,pk]<|tC (λBN=>tF [pk,pk,pk,pk]<|tC (λhb2=>tC (λhb3=>tC (λGC=>tF [pk,pk]<|tC (λJK=>tC (λKD=>tF [pk,pk]<|tA rU .body) λKD=>tA rU .body) λJK=>tA rU .body) λGC=>tA rU .body) λhb3=>tA rU .body) λhb2=>tA rU .body) λBN=>tA rU .body
instance {n:Nd}:Ht P (G mx) (EG n):=⟨λ_ h=>[At (Vj h)]⟩
def Km(n:Nd):Option Bool:=cond (BD n.name.data.toList V4.data.toList) (cond (BD n.unit.data.toList V4.data.toList) (cond (Bi n.BK.den 0) (cond (Bi ((n.BK.ps.length:Nat):Int) 0) (cond (Bi ((n.kids.length:Nat):Int) 0) (some true) (some false)) (some false)) (some false)) (some false)) (some false)
def Vg{n:Nd}{yR:Bool}(h:Km  n=some yR):Pure P (G mx) 59 [.agg (CW n),.zi 12] (.zb yR):=by
 apply uM h Tryz.func59;exact tF [pk,pk]<|tC (λBN=>tF [pk,pk]<|tC (λhb2=>tF [pk,pk,pk,pk,pk,pk]<|tC (λhb3=>tC (λGC=>tF [pk,pk]<|tC (λJK=>tA rU .body) λJK=>tA rU .body) λGC=>tA rU .body) λhb3=>tA rU .body) λhb2=>tA rU .body) λBN=>tA rU .body
def Ba(n:Int)(low:Int)(high:Int):Option Bool:=cond (LS low n) (cond (LS n high) (some true) (some false)) (some false)
def X0{n:Int}{low:Int}{high:Int}{yR:Bool}(h:Ba  n low high=some yR):Pure P (G mx) 104 [.zi n,.zi low,.zi high] (.zb yR):=by
 apply uM h Tryz.func104;exact tC (λBN=>tC (λhb2=>tA rU .body) λhb2=>tA rU .body) λBN=>tA rU .body
instance {n:Int} {low:Int} {high:Int}:Ht P (G mx) (Ba n low high):=⟨λ_ h=>[At (X0 h)]⟩
def J7(s:ByteArray):Option Bool:=cond (Bi ((s.data.toList.length:Nat):Int) 3) ((s.data.toList[0]?).bind λc1=>(Di ((c1.toNat:Nat):Int)).bind λy2=>cond y2 ((s.data.toList[1]?).bind λc3=>(Di ((c3.toNat:Nat):Int)).bind λy4=>cond y4 ((s.data.toList[2]?).bind λc5=>(Di ((c5.toNat:Nat):Int)).bind λy6=>some y6) (some false)) (some false)) (some false)
def gX{s:ByteArray}{yR:Bool}(h:J7  s=some yR):Pure P (G mx) 105 [.zs s] (.zb yR):=by
 apply uM h Tryz.func105;exact tC (λBN=>tB λc1 hc1=>tF [XU (Xy hc1)]<|tP (λC5=>tB λc3 hc3=>tF [XU (Xy hc3)]<|tP (λKE=>tB λc5 hc5=>tF [XU (Xy hc5)]<|tH λy6 Mj=>tA rU .body) λKE=>tA rU .body) λC5=>tA rU .body) λBN=>tA rU .body
instance {s:ByteArray}:Ht P (G mx) (J7 s):=⟨λ_ h=>[At (gX h)]⟩
def SD  :Option (List ByteArray):=some [M6,JU,Dx,V3,Ml,NY,toS,IY,Nx,Ho,GU,E8,Cp,Dz,fX,dW,R8,V2,fF,rR,QR,LB,uK,Uu,O3,VV,IG,Yr,Mv,RY,KA,FX,IE]
def aN{yR:(List ByteArray)}(h:SD  =some yR):Pure P (G mx) 131 [] (.sl .lost yR.length (rows stC yR)):=by
 apply uM h Tryz.func131;exact tA rU .body
def aUC:Code:=Ci Tryz.f106
def VH(i0:Nat)(e0:UInt8) :Option (Lp Unit Unit Bool):=(EM ((e0.toNat:Nat):Int)).bind λy5=>cond y5 (some (.nx ())) ((Ee ((e0.toNat:Nat):Int)).bind λy6=>cond y6 (some (.nx ())) (cond (Bi ((e0.toNat:Nat):Int) 95) (some (.nx ())) (some (.rt false))))
def Kk(s:ByteArray):Option Bool:=cond (Dd ((s.data.toList.length:Nat):Int) 1) (some false) (cond (Dd 16 ((s.data.toList.length:Nat):Int)) (some false) ((s.data.toList[0]?).bind λc1=>(EM ((c1.toNat:Nat):Int)).bind λy2=>cond y2 ((SD).bind λy3=>(Li y3 s).bind λy4=>cond y4 (some false) ((Cs s.data.toList.length (Bs (λi y x=>VH   i y ) (λx=>()) (s.data.toList.drop 0) 0 ())).bind (H8 (λ(_:Unit)=>some true) (λv=>some v)))) (some false)))
def aO{s:ByteArray}{yR:Bool}(h:Kk  s=some yR):Pure P (G mx) 106 [.zs s] (.zb yR):=by
 apply uM h Tryz.func106;exact tC (λBN=>tA rU .body) λBN=>tC (λhb2=>tA rU .body) λhb2=>tB λc1 hc1=>tF [XU (Xy hc1)]<|tP (λC5=>tB λy3 F6=>tF [At (aN F6)]<|Qg (λy4 KE=>[At (MT KE)]) (λKE=>tA rU .body) λKE=>Mc (λv=>some v) 47 [2,6,7,10,11,12,15,16,17,18,21,22,26,32,33,34,38,39,40,41,45,46] [2,6,7,10,11,12,15,16,17,18,21,22,26,32,33,34,38,39,40,41,45,46] (λi0 _=>[(0,.zs s),(3,.zi ((i0:Nat):Int))]) (λ_=>⟨[],0,[],0⟩) [0,3] [] 0 (sb aUC 116) [.code (sb aUC 15)] (λ_=>rU) NH (λ_ i0 e0 ⟨⟩ j0 Kz LC IR=>tF [pb (U6 LC),XU (Xy Kz)]<|tP (λJR=>tF [pi IR]<|QK rU id) λJR=>tF [XU (Xy Kz)]<|tP (λMj=>tF [pi IR]<|QK rU id) λMj=>tF [XU (Xy Kz)]<|tN (λhb3=>tF [pi IR]<|QK rU id) λhb3=>NC rU .body) λ⟨⟩ abY=>tA rB .body) λC5=>tA rU .body
instance {s:ByteArray}:Ht P (G mx) (Kk s):=⟨λ_ h=>[At (aO h)]⟩
def Iz(n:Nd):Option Bool:=cond (Bi n.kind 11) ((Hc n).bind λy1=>cond y1 (cond (BD n.unit.data.toList Cp.data.toList) ((Ba n.n 1 1000000).bind λy2=>some y2) (some false)) (some false)) (some false)
def XZ{n:Nd}{yR:Bool}(h:Iz  n=some yR):Pure P (G mx) 107 [.agg (CW n)] (.zb yR):=by
 apply uM h Tryz.func107;exact tC (λBN=>tP (λBL=>tC (λhb2=>tH λy2 C5=>tA rU .body) λhb2=>tA rU .body) λBL=>tA rU .body) λBN=>tA rU .body
instance {n:Nd}:Ht P (G mx) (Iz n):=⟨λ_ h=>[At (XZ h)]⟩
def aUE:Code:=Ci Tryz.f109
def Um(f:Fn)(i0:Nat)(e0:Pc) :Option (Lp Unit Unit Bool):=(Xm e0.Bc f.den).bind λz3=>cond (Bi z3 0) ((Oj e0.Bc f.den).bind λz4=>(Ba z4 (-999999999999) 999999999999).bind λy5=>cond y5 ((Ba e0.BJ (-1000000) 1000000).bind λy6=>cond y6 (cond (Dd 999999999999 e0.fr) (some (.rt false)) (cond (Bi ((i0:Nat):Int) 0) (cond (Bi e0.fr 0) (some (.nx ())) (some (.rt false))) (cond (Dd 0 ((i0:Nat):Int)) ((F9 f.ps (Ka ((i0:Nat):Int) 1)).bind λx7=>cond (LS e0.fr x7.fr) (some (.rt false)) (some (.nx ()))) (some (.nx ()))))) (some (.rt false))) (some (.rt false))) (some (.rt false))
def MV(f:Fn):Option Bool:=(Ba f.den 1 1000000).bind λy1=>cond y1 ((Ba ((f.ps.length:Nat):Int) 1 64).bind λy2=>cond y2 ((Cs f.ps.length (Bs (λi y x=>Um  f i y ) (λx=>()) (f.ps.drop 0) 0 ())).bind (H8 (λ(_:Unit)=>some true) (λv=>some v))) (some false)) (some false)
def Y1{f:Fn}{yR:Bool}(h:MV  f=some yR):Pure P (G mx) 109 [.agg (vK f)] (.zb yR):=by
 apply uM h Tryz.func109;exact tP (λBL=>tP (λC5=>Mc (λv=>some v) 79 [2,7,8,9,13,14,15,20,33,34,40,41,42,43,46,47,48,49,52,53,54,56,57,60,61,62,63,65,66,76,77,78] [2,7,8,9,13,14,15,20,33,34,40,41,42,43,46,47,48,49,52,53,54,56,57,60,61,62,63,65,66,76,77,78] (λi0 _=>[(1,.ptr 0 0),(3,.zi ((i0:Nat):Int))]) (λ_=>⟨[(0,.cells (vK f))],1,[],0⟩) [1,3] [] 0 (sb aUE 116) [.code (sb aUE 15)] (λ_=>rU) NH (λ_ i0 e0 ⟨⟩ j0 Kz LC IR=>tF [pb (U6 LC),Fi (qV .lost Kz)]<|tB λz3 hz3=>tF [A4 (bY hz3 (.tmp 29) (.tmp 31))]<|tN (λBN=>tB λz4 hz4=>tF [A4 (MN hz4 (.tmp 36) (.tmp 38))]<|tP (λJR=>tP (λMj=>tC (λhb2=>NC rU .body) λhb2=>tC (λhb3=>tN (λGC=>tF [pb (B:=Dd 0 ((i0:Nat):Int)) (b:=false) (DQ (by have:=Jf hb3;omega)),pi IR]<|tX rU id) λGC=>NC rU .body) λhb3=>tC (λJK=>tF [pk]<|tB λx7 hx7=>tF [Fi (aIU .lost hx7)]<|tC (λKD=>NC rU .body) λKD=>tF [pi IR]<|tX rU id) λJK=>tF [pi IR]<|tX rU id) λMj=>NC rU .body) λJR=>NC rU .body) λBN=>NC rU .body) λ⟨⟩ biM=>tA rB .body) λC5=>tA rU .body) λBL=>tA rU .body
def SF(Ej:Nd->Option Bool)(Dh:(List Nd)->Option Bool)(n:Nd):Option Bool:=cond (Bi n.kind 11) ((Hc n).bind λy1=>cond y1 (cond (BD n.unit.data.toList E8.data.toList) ((Ba n.n 0 1).bind λy2=>cond y2 ((Ba n.n 0 999999999999).bind λy3=>cond y3 ((J7 n.unit).bind λy4=>cond y4 (some true) (some true)) (some false)) (some false)) ((Ba n.n 0 999999999999).bind λy5=>cond y5 ((J7 n.unit).bind λy6=>cond y6 (some true) (cond (BD n.unit.data.toList Cp.data.toList) (some true) (cond (BD n.unit.data.toList Dz.data.toList) (some true) (some false)))) (some false))) (some false)) (cond (Bi n.kind 12) ((Hb n).bind λy7=>cond y7 ((Kk n.name).bind λy8=>some y8) (some false)) (cond (Bi n.kind 13) ((K4 n).bind λy9=>cond y9 ((Ba n.n 1 1000000).bind λZl=>some Zl) (some false)) (cond (Bi n.kind 14) ((Hb n).bind λy11=>cond y11 ((Li [IG,Yr,Mv,RY] n.name).bind λy12=>some y12) (some false)) (cond (Bi n.kind 15) ((Fu n).bind λkD=>cond kD (cond (Bi ((n.kids.length:Nat):Int) 1) ((n.kids[0]?).bind λx14=>(Ej x14).bind λsV=>some sV) (some false)) (some false)) (cond (Bi n.kind 16) ((Gw n).bind λZQ=>cond ZQ (cond (Bi ((n.kids.length:Nat):Int) 2) (cond (BD n.name.data.toList BI.data.toList) ((n.kids[1]?).bind λx17=>(Iz x17).bind λlU=>cond lU ((Li [rR,QR,I4,J6,Mg,Jt,Sx,Fj,Ve,BI,uK] n.name).bind λy19=>cond y19 ((Dh n.kids).bind λzK=>some zK) (some false)) (some false)) ((Li [rR,QR,I4,J6,Mg,Jt,Sx,Fj,Ve,BI,uK] n.name).bind λy21=>cond y21 ((Dh n.kids).bind λy22=>some y22) (some false))) (some false)) (some false)) (cond (Bi n.kind 17) ((Gw n).bind λoR=>cond oR (cond (LS 2 ((n.kids.length:Nat):Int)) (cond (BD n.name.data.toList KA.data.toList) ((Dh n.kids).bind λy24=>some y24) (cond (BD n.name.data.toList FX.data.toList) ((Dh n.kids).bind λy25=>some y25) (some false))) (some false)) (some false)) (cond (Bi n.kind 18) ((Kn n).bind λjQ=>cond jQ (cond (Bi ((n.kids.length:Nat):Int) 1) ((n.kids[0]?).bind λx27=>(Ej x27).bind λy28=>cond y28 ((MV n.BK).bind λy29=>some y29) (some false)) (some false)) (some false)) (some false))))))))
def aR(Ej:Nd->Option Bool)(Dh:(List Nd)->Option Bool)(MH:∀{n:Nd} {yR:Bool},Ej n=some yR->Pure P (G mx) 57 [.agg (CW n)] (.zb yR))(JQ:∀{l:(List Nd)} {yR:Bool},Dh l=some yR->Pure P (G mx) 108 [.sl .lost l.length (BC l)] (.zb yR)){n:Nd}{yR:Bool}(h:SF Ej Dh n=some yR):Pure P (G mx) 57 [.agg (CW n)] (.zb yR):=by
 apply uM h Tryz.func57;exact tC (λBN=>tP (λBL=>tC (λhb2=>tP (λC5=>tP (λF6=>tP (λKE=>tA rU .body) λKE=>tF [pb hb2]<|tA rU .body) λF6=>tA rU .body) λC5=>tA rU .body) λhb2=>tP (λJR=>tP (λMj=>tA rU .body) λMj=>tF [pb hb2]<|tC (λhb3=>tA rU .body) λhb3=>tC (λGC=>tA rU .body) λGC=>tA rU .body) λJR=>tA rU .body) λBL=>tA rU .body) λBN=>tC (λJK=>tP (λV7=>tH λy8 S3=>tA rU .body) λV7=>tA rU .body) λJK=>tC (λKD=>Qg (λy9 VD=>[At (Wu VD)]) (λVD=>tH λZl QY=>tA rU .body) λVD=>tA rU .body) λKD=>tC (λNF=>tP (λZ3=>tB λy12 kU=>tF [G9 (args:=[.sl .full 4 [.zs IG,.zs Yr,.zs Mv,.zs RY],.zs n.name]) (.d (.r (.r (.r (.r .nil)))) (T4.eq [IG,Yr,Mv,RY]).symm (.r .nil)) (MT kU)]<|tA rU .body) λZ3=>tA rU .body) λNF=>tC (λO6=>tP (λU5=>tC (λR3=>tB λx14 beQ=>tF [Fi (Du .lost beQ)]<|tB λsV YB=>tF [At (MH YB)]<|tA rU .body) λR3=>tA rU .body) λU5=>tA rU .body) λO6=>tC (λNE=>tP (λYC=>tN (λO5=>tC (λQV=>tB λx17 arZ=>tF [Fi (Du .lost arZ)]<|tP (λZ4=>Qg (λy19 abQ=>[G9 (args:=[.sl .full 11 [.zs rR,.zs QR,.zs I4,.zs J6,.zs Mg,.zs Jt,.zs Sx,.zs Fj,.zs Ve,.zs BI,.zs uK],.zs n.name]) (.d (.r (.r (.r (.r (.r (.r (.r (.r (.r (.r (.r .nil))))))))))) (T4.eq [rR,QR,I4,J6,Mg,Jt,Sx,Fj,Ve,BI,uK]).symm (.r .nil)) (MT abQ)]) (λabQ=>tB λzK Z5=>tF [At (JQ Z5)]<|tA rU .body) λabQ=>tA rU .body) λZ4=>tA rU .body) λQV=>Qg (λy21 Z6=>[G9 (args:=[.sl .full 11 [.zs rR,.zs QR,.zs I4,.zs J6,.zs Mg,.zs Jt,.zs Sx,.zs Fj,.zs Ve,.zs BI,.zs uK],.zs n.name]) (.d (.r (.r (.r (.r (.r (.r (.r (.r (.r (.r (.r .nil))))))))))) (T4.eq [rR,QR,I4,J6,Mg,Jt,Sx,Fj,Ve,BI,uK]).symm (.r .nil)) (MT Z6)]) (λZ6=>tB λy22 kV=>tF [At (JQ kV)]<|tA rU .body) λZ6=>tA rU .body) λO5=>tA rU .body) λYC=>tA rU .body) λNE=>tC (λTV=>tP (λkW=>tC (λV4=>tC (λV5=>tB λy24 abR=>tF [At (JQ abR)]<|tA rU .body) λV5=>tC (λYy=>tB λy25 qP=>tF [At (JQ qP)]<|tA rU .body) λYy=>tA rU .body) λV4=>tA rU .body) λkW=>tA rU .body) λTV=>tC (λabH=>Qg (λjQ kX=>[At (Vk kX)]) (λkX=>tC (λabI=>tB λx27 beV=>tF [Fi (Du .lost beV)]<|Qg (λy28 qQ=>[At (MH qQ)]) (λqQ=>tB λy29 abS=>tF [At (Y1 abS)]<|tA rU .body) λqQ=>tA rU .body) λabI=>tA rU .body) λkX=>tA rU .body) λabH=>tA rU .body
def aUD:Code:=Ci Tryz.f108
def Ul(Ej:Nd->Option Bool)(Dh:(List Nd)->Option Bool)(i0:Nat)(e0:Nd) :Option (Lp Unit Unit Bool):=(Ej e0).bind λy1=>cond y1 (some (.nx ())) (some (.rt false))
def Rf(Ej:Nd->Option Bool)(Dh:(List Nd)->Option Bool)(l:(List Nd)):Option Bool:=(Cs l.length (Bs (λi y x=>Ul Ej Dh  i y ) (λx=>()) (l.drop 0) 0 ())).bind (H8 (λ(_:Unit)=>some true) (λv=>some v))
def Y0(Ej:Nd->Option Bool)(Dh:(List Nd)->Option Bool)(MH:∀{n:Nd} {yR:Bool},Ej n=some yR->Pure P (G mx) 57 [.agg (CW n)] (.zb yR))(JQ:∀{l:(List Nd)} {yR:Bool},Dh l=some yR->Pure P (G mx) 108 [.sl .lost l.length (BC l)] (.zb yR)){l:(List Nd)}{yR:Bool}(h:Rf Ej Dh l=some yR):Pure P (G mx) 108 [.sl .lost l.length (BC l)] (.zb yR):=by
 apply uM h Tryz.func108;exact Mc (λv=>some v) 16 [2,7,14,15] [2,7,14,15] (λi0 _=>[(0,.sl .lost l.length (BC l)),(3,.zi ((i0:Nat):Int))]) (λ_=>⟨[],0,[],0⟩) [0,3] [] 0 (sb aUD 52) [.code (sb aUD 7)] (λ_=>rU) NH (λ_ i0 e0 ⟨⟩ j0 Kz LC IR=>tF [pb (U6 LC),Fi (Du .lost Kz)]<|Qg (λy1 BL=>[At (MH BL)]) (λBL=>tF [pi IR]<|QK rU id) λBL=>NC rU .body) λ⟨⟩ Z7=>tA rB .body
mutual
def Em:Nat->Nd->Option Bool
 | 0,_=>none
 | qn+1,n=>SF (Em qn) (FF qn) n
def FF:Nat->(List Nd)->Option Bool
 | 0,_=>none
 | qn+1,l=>Rf (Em qn) (FF qn) l
end
def hP:∀qn:Nat,(∀{n:Nd} {yR:Bool},Em qn n=some yR->Pure P (G mx) 57 [.agg (CW n)] (.zb yR))/\(∀{l:(List Nd)} {yR:Bool},FF qn l=some yR->Pure P (G mx) 108 [.sl .lost l.length (BC l)] (.zb yR)):=by
 intro qn
 induction qn with
 | zero=>exact⟨(λh=>by simp only[Em] at h;cases h),(λh=>by simp only[FF] at h;cases h)⟩
 | succ qn ih=>exact⟨(λh=>aR (Em qn) (FF qn) ih.1 ih.2 (by rw[Em] at h;exact h)),(λh=>Y0 (Em qn) (FF qn) ih.1 ih.2 (by rw[FF] at h;exact h))⟩
def I7(n:Nd):Option Bool:=evt (λqn=>Em qn n)
def lK{n:Nd}{yR:Bool}(h:I7 n=some yR):Pure P (G mx) 57 [.agg (CW n)] (.zb yR):=by
 obtain⟨qn,h⟩:=kK h;exact(hP qn).1 h
instance {n:Nd}:Ht P (G mx) (I7 n):=⟨λ_ h=>[At (lK h)]⟩
def Gn(n:Nd):Option Bool:=cond (Bi n.kind 5) ((Km n).bind λy1=>cond y1 ((Ba n.n 0 1000000).bind λy2=>cond y2 ((Ba n.fr 0 36524).bind λy3=>cond y3 ((Ba n.to (Bh n.fr 1) 36525).bind λy4=>cond y4 ((Ba n.known 0 36524).bind λy5=>some y5) (some false)) (some false)) (some false)) (some false)) (some false)
def aU{n:Nd}{yR:Bool}(h:Gn  n=some yR):Pure P (G mx) 110 [.agg (CW n)] (.zb yR):=by
 apply uM h Tryz.func110;exact tC (λBN=>Qg (λy1 BL=>[At (Vg BL)]) (λBL=>tP (λC5=>tP (λF6=>tF [pk]<|tP (λKE=>tH λy5 JR=>tA rU .body) λKE=>tA rU .body) λF6=>tA rU .body) λC5=>tA rU .body) λBL=>tA rU .body) λBN=>tA rU .body
instance {n:Nd}:Ht P (G mx) (Gn n):=⟨λ_ h=>[At (aU h)]⟩
def aUK:Code:=Ci Tryz.f146
def RN(i0:Nat)(e0:Nd) :Option (Lp Unit Unit Bool):=(Iz e0).bind λy1=>cond y1 (some (.nx ())) (some (.rt false))
def K5(l:(List Nd)):Option Bool:=(Cs l.length (Bs (λi y x=>RN   i y ) (λx=>()) (l.drop 0) 0 ())).bind (H8 (λ(_:Unit)=>cond (Dd 0 ((l.length:Nat):Int)) (some true) (some false)) (λv=>some v))
def Wy{l:(List Nd)}{yR:Bool}(h:K5  l=some yR):Pure P (G mx) 146 [.sl .lost l.length (BC l)] (.zb yR):=by
 apply uM h Tryz.func146;exact Mc (λv=>some v) 19 [2,7,14,15,18] [2,7,14,15,18] (λi0 _=>[(0,.sl .lost l.length (BC l)),(3,.zi ((i0:Nat):Int))]) (λ_=>⟨[],0,[],0⟩) [3] [] 0 (sb aUK 52) [.code (sb aUK 7)] (λ_=>rU) NH (λ_ i0 e0 ⟨⟩ j0 Kz LC IR=>tF [pb (U6 LC),Fi (Du .lost Kz)]<|tP (λBL=>tF [pi IR]<|QK rU id) λBL=>NC rU .body) λ⟨⟩ Z7=>tC (λBN=>tA rB .body) λBN=>tA rB .body
def aUF:Code:=Ci Tryz.f111
def EH(i0:Nat)(e0:Nd)(QN:Int)(Qk:Int):Option (Lp (Int×Int) (Int×Int) Bool):=(Fu e0).bind λy1=>cond y1 (cond (Bi e0.kind 6) (cond (Bi ((e0.kids.length:Nat):Int) 1) ((e0.kids[0]?).bind λx2=>(I7 x2).bind λy3=>cond y3 (some (.nx (QN,Qk))) (some (.rt false))) (some (.rt false))) (cond (Bi e0.kind 8) (cond (Bi ((e0.kids.length:Nat):Int) 1) ((e0.kids[0]?).bind λx4=>(I7 x4).bind λy5=>cond y5 (some (.nx (QN,(Bh Qk 1)))) (some (.rt false))) (some (.rt false))) (cond (Bi e0.kind 7) ((K5 e0.kids).bind λy6=>cond y6 (some (.nx ((Bh QN 1),Qk))) (some (.rt false))) (some (.rt false))))) (some (.rt false))
def El(l:(List Nd)):Option Bool:=(Cs l.length (Bs (λi y x=>EH   i y x.1 x.2) (λx=>(x.1,x.2)) (l.drop 0) 0 (0,0))).bind (H8 (λ((oH,lX):(Int×Int))=>cond (LS oH 1) (cond (Bi lX 1) (some true) (some false)) (some false)) (λv=>some v))
def Wx{l:(List Nd)}{yR:Bool}(h:El  l=some yR):Pure P (G mx) 111 [.sl .lost l.length (BC l)] (.zb yR):=by
 apply uM h Tryz.func111;exact Mc (λv=>some v) 69 [2,9,16,17,23,24,25,32,33,41,42,43,49,52,53,61,62,64,65,67,68] [2,9,16,17,23,24,25,32,33,41,42,43,49,52,53,61,62,64,65,67,68] (λi0 (QN,Qk)=>[(0,.sl .lost l.length (BC l)),(3,.zi QN),(4,.zi Qk),(5,.zi ((i0:Nat):Int))]) (λ(QN,Qk)=>⟨[],0,[],0⟩) [0,5] [] 0 (sb aUF 244) [.code (sb aUF 31)] (λ_=>rU) NH (λ_ i0 e0 ⟨QN,Qk⟩ j0 Kz LC IR=>show T _ (EH   i0 e0 QN Qk) _ from tF [pb (U6 LC),Fi (Du .lost Kz)]<|tP (λBL=>tF [Fi (Du .lost Kz)]<|tC (λBN=>tF [Fi (Du .lost Kz)]<|tN (λhb2=>tF [Fi (Du .lost Kz)]<|tB λx2 hx2=>tF [Fi (Du .lost hx2)]<|tP (λF6=>tF [Fi (Du .lost Kz),pb (B:=Bi e0.kind 8) (b:=false) (by rw[Jf BN];rfl),pi IR]<|QK rU id) λF6=>NC rU .body) λhb2=>NC rU .body) λBN=>tC (λhb3=>tF [Fi (Du .lost Kz)]<|tN (λGC=>tF [Fi (Du .lost Kz)]<|tB λx4 hx4=>tF [Fi (Du .lost hx4)]<|tP (λJR=>tF [Fi (Du .lost Kz),pb hb3,pk,pi IR]<|QK rU id) λJR=>NC rU .body) λGC=>NC rU .body) λhb3=>tC (λJK=>tF [pk,Fi (Du .lost Kz)]<|Qg (λy6 Mj=>[At (Wy Mj)]) (λMj=>tF [pi IR]<|QK rU id) λMj=>NC rU .body) λJK=>NC rU .body) λBL=>NC rU .body) λ⟨oH,lX⟩ abY=>tC (λKD=>tC (λNF=>tA rB .body) λNF=>tA rB .body) λKD=>tA rB .body
instance {l:(List Nd)}:Ht P (G mx) (El l):=⟨λ_ h=>[At (Wx h)]⟩
def OG(n:Nd):Option Bool:=(Kk n.name).bind λy1=>cond y1 ((J7 n.unit).bind λy2=>cond y2 (cond (Bi n.kind 2) ((E5 n).bind λy3=>cond y3 (some true) (some false)) (cond (Bi n.kind 3) ((E6 n).bind λy4=>cond y4 ((Ba n.n 1 4).bind λy5=>some y5) (some false)) (cond (Bi n.kind 4) ((EG n).bind λy6=>cond y6 ((Ba n.n 1 1000000).bind λy7=>cond y7 ((some (Dd 1 ((n.kids.length:Nat):Int))).bind λq8=>cond q8 ((n.kids[0]?).bind λx9=>(Gn x9).bind λZl=>cond Zl ((Vm n.kids 1 ((n.kids.length:Nat):Int)).bind λl11=>(El l11).bind λy12=>some y12) (some false)) (some false)) (some false)) (some false)) (some false)))) ((some (BD n.unit.data.toList E8.data.toList)).bind λq13=>cond q13 (cond (Bi n.kind 2) ((E5 n).bind λy14=>cond y14 (some true) (some false)) (cond (Bi n.kind 3) ((E6 n).bind λsV=>cond sV ((Ba n.n 1 4).bind λZQ=>some ZQ) (some false)) (cond (Bi n.kind 4) ((EG n).bind λy17=>cond y17 ((Ba n.n 1 1000000).bind λlU=>cond lU ((some (Dd 1 ((n.kids.length:Nat):Int))).bind λq19=>cond q19 ((n.kids[0]?).bind λx20=>(Gn x20).bind λy21=>cond y21 ((Vm n.kids 1 ((n.kids.length:Nat):Int)).bind λl22=>(El l22).bind λoR=>some oR) (some false)) (some false)) (some false)) (some false)) (some false)))) ((some (BD n.unit.data.toList Cp.data.toList)).bind λq24=>cond q24 (cond (Bi n.kind 2) ((E5 n).bind λy25=>cond y25 (some true) (some false)) (cond (Bi n.kind 3) ((E6 n).bind λjQ=>cond jQ ((Ba n.n 1 4).bind λy27=>some y27) (some false)) (cond (Bi n.kind 4) ((EG n).bind λy28=>cond y28 ((Ba n.n 1 1000000).bind λy29=>cond y29 ((some (Dd 1 ((n.kids.length:Nat):Int))).bind λq30=>cond q30 ((n.kids[0]?).bind λx31=>(Gn x31).bind λy32=>cond y32 ((Vm n.kids 1 ((n.kids.length:Nat):Int)).bind λl33=>(El l33).bind λy34=>some y34) (some false)) (some false)) (some false)) (some false)) (some false)))) ((some (BD n.unit.data.toList Dz.data.toList)).bind λq35=>cond (Bi n.kind 2) ((E5 n).bind λy36=>cond y36 (some q35) (some false)) (cond (Bi n.kind 3) ((E6 n).bind λy37=>cond y37 (cond q35 ((Ba n.n 1 4).bind λy38=>some y38) (some false)) (some false)) (cond (Bi n.kind 4) ((EG n).bind λy39=>cond y39 ((Ba n.n 1 1000000).bind λy40=>cond y40 ((some (Dd 1 ((n.kids.length:Nat):Int))).bind λq41=>cond q41 ((n.kids[0]?).bind λx42=>(Gn x42).bind λy43=>cond y43 ((Vm n.kids 1 ((n.kids.length:Nat):Int)).bind λl44=>(El l44).bind λy45=>some y45) (some false)) (some false)) (some false)) (some false)) (some false))))))) (some false)
def aV{n:Nd}{yR:Bool}(h:OG  n=some yR):Pure P (G mx) 58 [.agg (CW n)] (.zb yR):=by
 apply uM h Tryz.func58;exact tP (λBL=>tP (λC5=>tC (λBN=>tP (λF6=>tA rU .body) λF6=>tA rU .body) λBN=>tC (λhb2=>tP (λKE=>tH λy5 JR=>tA rU .body) λKE=>tA rU .body) λhb2=>tC (λhb3=>tP (λMj=>tP (λV7=>Qg (λq8 hq8=>[A4 (ajB hq8 (.tmp 59) (.const (.int .i64 1)))]) (λhq8=>tB λx9 hx9=>tF [Fi (Du .lost hx9)]<|tP (λQY=>tB λl11 Z1=>tF [Q9 (QI Z1)]<|tH λy12 kU=>tA rU .body) λQY=>tA rU .body) λhq8=>tA rU .body) λV7=>tA rU .body) λMj=>tA rU .body) λhb3=>tA rU .body) λC5=>Qg (λq13 aPT=>[A4 (ajA aPT (.tmp 13) (.const (.string E8)))]) (λaPT=>tC (λGC=>tP (λXw=>tA rU .body) λXw=>tA rU .body) λGC=>tC (λJK=>tP (λYB=>tH λZQ YC=>tA rU .body) λYB=>tA rU .body) λJK=>tC (λKD=>tP (λakI=>tP (λZ4=>Qg (λq19 aPU=>[A4 (ajB aPU (.tmp 59) (.const (.int .i64 1)))]) (λaPU=>tB λx20 akG=>tF [Fi (Du .lost akG)]<|tP (λZ6=>tB λl22 arI=>tF [Q9 (QI arI)]<|tH λoR kW=>tA rU .body) λZ6=>tA rU .body) λaPU=>tA rU .body) λZ4=>tA rU .body) λakI=>tA rU .body) λKD=>tA rU .body) λaPT=>Qg (λq24 aPV=>[A4 (ajA aPV (.tmp 18) (.const (.string Cp)))]) (λaPV=>tC (λNF=>tP (λqP=>tA rU .body) λqP=>tA rU .body) λNF=>tC (λO6=>tP (λkX=>tH λy27 biI=>tA rU .body) λkX=>tA rU .body) λO6=>tC (λR3=>tP (λqQ=>tP (λabS=>Qg (λq30 aPW=>[A4 (ajB aPW (.tmp 59) (.const (.int .i64 1)))]) (λaPW=>tB λx31 beW=>tF [Fi (Du .lost beW)]<|tP (λaQE=>tB λl33 arN=>tF [Q9 (QI arN)]<|tH λy34 aXT=>tA rU .body) λaQE=>tA rU .body) λaPW=>tA rU .body) λabS=>tA rU .body) λqQ=>tA rU .body) λR3=>tA rU .body) λaPV=>tB λq35 bdX=>tF [A4 (ajA bdX (.tmp 23) (.const (.string Dz)))]<|tC (λNE=>tP (λabT=>tA rU .body) λabT=>tA rU .body) λNE=>tC (λO5=>tP (λaAX=>(by cases q35 with | true=>exact Zc<|tH λy38 aXU=>tA rU .body | false=>exact Zb<|tA rU .body)) λaAX=>tA rU .body) λO5=>tC (λQV=>tP (λaQF=>tP (λaAY=>Qg (λq41 aPX=>[A4 (ajB aPX (.tmp 59) (.const (.int .i64 1)))]) (λaPX=>tB λx42 beZ=>tF [Fi (Du .lost beZ)]<|tP (λbfG=>tB λl44 aOY=>tF [Q9 (QI aOY)]<|tH λy45 aXW=>tA rU .body) λbfG=>tA rU .body) λaPX=>tA rU .body) λaAY=>tA rU .body) λaQF=>tA rU .body) λQV=>tA rU .body) λBL=>tA rU .body
def B23:Code:=Ci Tryz.f23
def Uk(i0:Nat)(e0:Nd) :Option (Lp Unit Unit Bool):=(OG e0).bind λy3=>cond y3 (some (.nx ())) (some (.rt false))
def MU(n:Nd):Option Bool:=(OF n).bind λy1=>cond y1 (cond (Bi n.kind 1) ((Cs n.kids.length (Bs (λi y x=>Uk   i y ) (λx=>()) (n.kids.drop 0) 0 ())).bind (H8 (λ(_:Unit)=>(Fu n).bind λy5=>some y5) (λv=>some v))) ((I7 n).bind λy2=>some y2)) (some false)
def YZ{n:Nd}{yR:Bool}(h:MU  n=some yR):Pure P (G mx) 23 [.agg (CW n)] (.zb yR):=by
 apply uM h Tryz.func23;exact Qg (λy1 BL=>[At (aT BL)]) (λBL=>tN (λBN=>Mc (λv=>some v) 28 [2,5,6,9,11,16,24,25,27] [2,5,6,9,11,16,24,25,27] (λi0 _=>[(1,.ptr 0 0),(3,.zi ((i0:Nat):Int))]) (λ_=>⟨[(0,.cells (CW n))],1,[],0⟩) [3] [] 0 (sb B23 244) [.code (sb B23 31)] (λ_=>rU) NH (λ_ i0 e0 ⟨⟩ j0 Kz LC IR=>tF [pb (U6 LC),Fi (Du .lost Kz)]<|Qg (λy3 F6=>[At (aV F6)]) (λF6=>tF [pi IR]<|QK rU id) λF6=>NC rU .body) λ⟨⟩ asH=>tH λy5 JR=>tA rB .body) λBN=>tH λy2 C5=>tA rU .body) λBL=>tA rU .body
def CL(n:Int):Option ByteArray:=(Ea (NA n 100)).bind λy1=>cond (Dd ((y1.data.toList.length:Nat):Int) 2) (Cs (acT.data.toList.length+y1.data.toList.length) ((Ea (Ux n 100)).bind λy3=>Cs (y3.data.toList.length+Sy.data.toList.length) (Cs ((y3++Sy).data.toList.length+(acT++y1).data.toList.length) (some ((y3++Sy)++(acT++y1)))))) ((Ea (Ux n 100)).bind λy6=>Cs (y6.data.toList.length+Sy.data.toList.length) (Cs ((y6++Sy).data.toList.length+y1.data.toList.length) (some ((y6++Sy)++y1))))
def YH{n:Int}{yR:ByteArray}(h:CL  n=some yR):Pure P (G mx) 113 [.zi n] (.zs yR):=by
 apply uM h Tryz.func113;exact tF [pk]<|tB λy1 BL=>tF [At (Dv BL)]<|tC (λBN=>tL λhl2=>tF [A4 (Bv hl2 (.const (.string acT)) (.tmp 10)),pk]<|tB λy3 F6=>tF [At (Dv F6)]<|tL λhl4=>tF [A4 (Bv hl4 (.tmp 14) (.const (.string Sy)))]<|tL λhl5=>tF [A4 (Bv hl5 (.tmp 15) (.tmp 16))]<|tA rU .body) λBN=>tF [pk]<|tB λy6 Mj=>tF [At (Dv Mj)]<|tL λhl7=>tF [A4 (Bv hl7 (.tmp 14) (.const (.string Sy)))]<|tL λhl8=>tF [A4 (Bv hl8 (.tmp 15) (.tmp 16))]<|tA rU .body
instance {n:Int}:Ht P (G mx) (CL n):=⟨λ_ h=>[At (YH h)]⟩
def KZ(n:Nd):Option ByteArray:=cond (BD n.unit.data.toList Cp.data.toList) ((Ea n.n).bind λy1=>some y1) (cond (BD n.unit.data.toList Dz.data.toList) ((Ea n.n).bind λy2=>Cs (y2.data.toList.length+Sw.data.toList.length) (some (y2++Sw))) (cond (BD n.unit.data.toList E8.data.toList) (cond (Bi n.n 1) (some Uu) (some O3)) (Cs (n.unit.data.toList.length+lH.data.toList.length) ((CL n.n).bind λy5=>Cs ((n.unit++lH).data.toList.length+y5.data.toList.length) (some ((n.unit++lH)++y5))))))
def V8{n:Nd}{yR:ByteArray}(h:KZ  n=some yR):Pure P (G mx) 63 [.agg (CW n)] (.zs yR):=by
 apply uM h Tryz.func63;exact tC (λBN=>tB λy1 BL=>tF [At (Dv BL)]<|tA rU .body) λBN=>tC (λhb2=>tB λy2 C5=>tF [At (Dv C5)]<|tL λhl3=>tF [A4 (Bv hl3 (.tmp 14) (.const (.string Sw)))]<|tA rU .body) λhb2=>tC (λhb3=>tC (λGC=>tA rU .body) λGC=>tA rU .body) λhb3=>tL λhl4=>tF [A4 (Bv hl4 (.tmp 22) (.const (.string lH)))]<|tH λy5 JR=>tL λhl6=>tF [A4 (Bv hl6 (.tmp 23) (.tmp 26))]<|tA rU .body
def B65:Code:=Ci Tryz.f65
def KY(f:Fn)(i0:Nat)(e0:Pc)(s3:ByteArray):Option (Lp ByteArray ByteArray ByteArray):=cond (Dd 0 ((i0:Nat):Int)) (Cs (s3.data.toList.length+F5.data.toList.length) ((Oj e0.Bc f.den).bind λz2=>(CL e0.fr).bind λy3=>Cs (y3.data.toList.length+BV.data.toList.length) (Cs ((s3++F5).data.toList.length+(y3++BV).data.toList.length) (cond (Dd z2 0) (Cs (((s3++F5)++(y3++BV)).data.toList.length+Fj.data.toList.length) (cond (Dd e0.BJ 0) ((CL (lT z2)).bind λy7=>Cs (y7.data.toList.length+C9.data.toList.length) ((Ea (lT e0.BJ)).bind λy9=>Cs ((y7++C9).data.toList.length+y9.data.toList.length) (Cs (((y7++C9)++y9).data.toList.length+BI.data.toList.length) ((Ea f.den).bind λy12=>Cs ((((y7++C9)++y9)++BI).data.toList.length+y12.data.toList.length) (Cs ((((s3++F5)++(y3++BV))++Fj).data.toList.length+((((y7++C9)++y9)++BI)++y12).data.toList.length) (some (.nx ((((s3++F5)++(y3++BV))++Fj)++((((y7++C9)++y9)++BI)++y12))))))))) ((CL (lT z2)).bind λsV=>Cs (sV.data.toList.length+C8.data.toList.length) ((Ea e0.BJ).bind λy17=>Cs ((sV++C8).data.toList.length+y17.data.toList.length) (Cs (((sV++C8)++y17).data.toList.length+BI.data.toList.length) ((Ea f.den).bind λzK=>Cs ((((sV++C8)++y17)++BI).data.toList.length+zK.data.toList.length) (Cs ((((s3++F5)++(y3++BV))++Fj).data.toList.length+((((sV++C8)++y17)++BI)++zK).data.toList.length) (some (.nx ((((s3++F5)++(y3++BV))++Fj)++((((sV++C8)++y17)++BI)++zK))))))))))) (cond (Dd e0.BJ 0) ((CL z2).bind λoR=>Cs (oR.data.toList.length+C9.data.toList.length) ((Ea (lT e0.BJ)).bind λy25=>Cs ((oR++C9).data.toList.length+y25.data.toList.length) (Cs (((oR++C9)++y25).data.toList.length+BI.data.toList.length) ((Ea f.den).bind λy28=>Cs ((((oR++C9)++y25)++BI).data.toList.length+y28.data.toList.length) (Cs (((s3++F5)++(y3++BV)).data.toList.length+((((oR++C9)++y25)++BI)++y28).data.toList.length) (some (.nx (((s3++F5)++(y3++BV))++((((oR++C9)++y25)++BI)++y28))))))))) ((CL z2).bind λy31=>Cs (y31.data.toList.length+C8.data.toList.length) ((Ea e0.BJ).bind λy33=>Cs ((y31++C8).data.toList.length+y33.data.toList.length) (Cs (((y31++C8)++y33).data.toList.length+BI.data.toList.length) ((Ea f.den).bind λy36=>Cs ((((y31++C8)++y33)++BI).data.toList.length+y36.data.toList.length) (Cs (((s3++F5)++(y3++BV)).data.toList.length+((((y31++C8)++y33)++BI)++y36).data.toList.length) (some (.nx (((s3++F5)++(y3++BV))++((((y31++C8)++y33)++BI)++y36)))))))))))))) ((Oj e0.Bc f.den).bind λz39=>(CL e0.fr).bind λy40=>Cs (y40.data.toList.length+BV.data.toList.length) (Cs (s3.data.toList.length+(y40++BV).data.toList.length) (cond (Dd z39 0) (Cs ((s3++(y40++BV)).data.toList.length+Fj.data.toList.length) (cond (Dd e0.BJ 0) ((CL (lT z39)).bind λy44=>Cs (y44.data.toList.length+C9.data.toList.length) ((Ea (lT e0.BJ)).bind λy46=>Cs ((y44++C9).data.toList.length+y46.data.toList.length) (Cs (((y44++C9)++y46).data.toList.length+BI.data.toList.length) ((Ea f.den).bind λy49=>Cs ((((y44++C9)++y46)++BI).data.toList.length+y49.data.toList.length) (Cs (((s3++(y40++BV))++Fj).data.toList.length+((((y44++C9)++y46)++BI)++y49).data.toList.length) (some (.nx (((s3++(y40++BV))++Fj)++((((y44++C9)++y46)++BI)++y49))))))))) ((CL (lT z39)).bind λy52=>Cs (y52.data.toList.length+C8.data.toList.length) ((Ea e0.BJ).bind λy54=>Cs ((y52++C8).data.toList.length+y54.data.toList.length) (Cs (((y52++C8)++y54).data.toList.length+BI.data.toList.length) ((Ea f.den).bind λy57=>Cs ((((y52++C8)++y54)++BI).data.toList.length+y57.data.toList.length) (Cs (((s3++(y40++BV))++Fj).data.toList.length+((((y52++C8)++y54)++BI)++y57).data.toList.length) (some (.nx (((s3++(y40++BV))++Fj)++((((y52++C8)++y54)++BI)++y57))))))))))) (cond (Dd e0.BJ 0) ((CL z39).bind λy60=>Cs (y60.data.toList.length+C9.data.toList.length) ((Ea (lT e0.BJ)).bind λy62=>Cs ((y60++C9).data.toList.length+y62.data.toList.length) (Cs (((y60++C9)++y62).data.toList.length+BI.data.toList.length) ((Ea f.den).bind λy65=>Cs ((((y60++C9)++y62)++BI).data.toList.length+y65.data.toList.length) (Cs ((s3++(y40++BV)).data.toList.length+((((y60++C9)++y62)++BI)++y65).data.toList.length) (some (.nx ((s3++(y40++BV))++((((y60++C9)++y62)++BI)++y65))))))))) ((CL z39).bind λy68=>Cs (y68.data.toList.length+C8.data.toList.length) ((Ea e0.BJ).bind λy70=>Cs ((y68++C8).data.toList.length+y70.data.toList.length) (Cs (((y68++C8)++y70).data.toList.length+BI.data.toList.length) ((Ea f.den).bind λy73=>Cs ((((y68++C8)++y70)++BI).data.toList.length+y73.data.toList.length) (Cs ((s3++(y40++BV)).data.toList.length+((((y68++C8)++y70)++BI)++y73).data.toList.length) (some (.nx ((s3++(y40++BV))++((((y68++C8)++y70)++BI)++y73)))))))))))))
def LP(f:Fn):Option ByteArray:=(Cs f.ps.length (Bs (λi y x=>KY  f i y x) (λx=>x) (f.ps.drop 0) 0 V4)).bind (H8 (λ(aJZ:ByteArray)=>some aJZ) (λv=>some v))
def XB{f:Fn}{yR:ByteArray}(h:LP  f=some yR):Pure P (G mx) 65 [.agg (vK f)] (.zs yR):=by
 apply uM h Tryz.func65;exact Mc (λv=>some v) 60 [13,18,35,41] [13,18,35,41] (λi0 s3=>[(1,.ptr 0 0),(3,.zs s3),(10,.sl .lost f.ps.length (rows Ov f.ps)),(11,.zi ((f.ps.length:Nat):Int)),(12,.zi ((i0:Nat):Int))]) (λs3=>⟨[(0,.cells (vK f))],1,[],0⟩) [1,10,11,12] [] 0 (sb B65 116) [.code (sb B65 15)] (λ_=>rU) NH (λ_ i0 e0 s3 j0 Kz LC IR=>tF [pb (U6 LC),Fi (qV .lost Kz)]<|tC (λBN=>tL λhl1=>tF [A4 (Bv hl1 (.tmp 19) (.const (.string F5)))]<|tB λz2 hz2=>tF [A4 (MN hz2 (.tmp 22) (.tmp 24))]<|tH λy3 F6=>tL λhl4=>tF [A4 (Bv hl4 (.tmp 31) (.const (.string BV)))]<|tL λhl5=>tF [A4 (Bv hl5 (.tmp 28) (.tmp 32))]<|tC (λhb2=>tL λhl6=>tF [A4 (Bv hl6 (.tmp 36) (.const (.string Fj)))]<|tC (λhb3=>tH λy7 V7=>tL λhl8=>tF [A4 (Bv hl8 (.tmp 46) (.tmp 47))]<|tB λy9 VD=>tF [At (Dv VD)]<|tL λhl10=>tF [A4 (Bv hl10 (.tmp 48) (.tmp 50))]<|tL λZ1=>tF [A4 (Bv Z1 (.tmp 51) (.const (.string BI)))]<|tB λy12 kU=>tF [At (Dv kU)]<|tL λaOM=>tF [A4 (Bv aOM (.tmp 52) (.tmp 55))]<|tL λabM=>tF [A4 (Bv abM (.tmp 44) (.tmp 56)),pi IR]<|tX rU id) λhb3=>tH λsV YB=>tL λaON=>tF [A4 (Bv aON (.tmp 46) (.tmp 47))]<|tB λy17 akI=>tF [At (Dv akI)]<|tL λaOP=>tF [A4 (Bv aOP (.tmp 48) (.tmp 50))]<|tL λarH=>tF [A4 (Bv arH (.tmp 51) (.const (.string BI)))]<|tB λzK Z5=>tF [At (Dv Z5)]<|tL λbdA=>tF [A4 (Bv bdA (.tmp 52) (.tmp 55))]<|tL λarI=>tF [A4 (Bv arI (.tmp 44) (.tmp 56)),pi IR]<|tX rU id) λhb2=>tC (λGC=>tH λoR kW=>tL λarJ=>tF [A4 (Bv arJ (.tmp 46) (.tmp 47))]<|tB λy25 qP=>tF [At (Dv qP)]<|tL λbdD=>tF [A4 (Bv bdD (.tmp 48) (.tmp 50))]<|tL λarK=>tF [A4 (Bv arK (.tmp 51) (.const (.string BI)))]<|tB λy28 qQ=>tF [At (Dv qQ)]<|tL λaOS=>tF [A4 (Bv aOS (.tmp 52) (.tmp 55))]<|tL λarL=>tF [A4 (Bv arL (.tmp 44) (.tmp 56)),pi IR]<|tX rU id) λGC=>tH λy31 aQD=>tL λarM=>tF [A4 (Bv arM (.tmp 46) (.tmp 47))]<|tB λy33 aXS=>tF [At (Dv aXS)]<|tL λaOT=>tF [A4 (Bv aOT (.tmp 48) (.tmp 50))]<|tL λarO=>tF [A4 (Bv arO (.tmp 51) (.const (.string BI)))]<|tB λy36 abT=>tF [At (Dv abT)]<|tL λaOU=>tF [A4 (Bv aOU (.tmp 52) (.tmp 55))]<|tL λaOV=>tF [A4 (Bv aOV (.tmp 44) (.tmp 56)),pi IR]<|tX rU id) λBN=>tB λz39 bfR=>tF [A4 (MN bfR (.tmp 22) (.tmp 24))]<|tH λy40 aAY=>tL λbdG=>tF [A4 (Bv bdG (.tmp 31) (.const (.string BV)))]<|tL λbdH=>tF [A4 (Bv bdH (.tmp 28) (.tmp 32))]<|tC (λJK=>tL λaOX=>tF [A4 (Bv aOX (.tmp 36) (.const (.string Fj)))]<|tC (λKD=>tH λy44 aXV=>tL λaOZ=>tF [A4 (Bv aOZ (.tmp 46) (.tmp 47))]<|tB λy46 aQG=>tF [At (Dv aQG)]<|tL λaPA=>tF [A4 (Bv aPA (.tmp 48) (.tmp 50))]<|tL λbdJ=>tF [A4 (Bv bdJ (.tmp 51) (.const (.string BI)))]<|tB λy49 aXX=>tF [At (Dv aXX)]<|tL λbdL=>tF [A4 (Bv bdL (.tmp 52) (.tmp 55))]<|tL λaPB=>tF [A4 (Bv aPB (.tmp 44) (.tmp 56)),pi IR]<|tX rU id) λKD=>tH λy52 biJ=>tL λaPC=>tF [A4 (Bv aPC (.tmp 46) (.tmp 47))]<|tB λy54 bfJ=>tF [At (Dv bfJ)]<|tL λaPD=>tF [A4 (Bv aPD (.tmp 48) (.tmp 50))]<|tL λbdM=>tF [A4 (Bv bdM (.tmp 51) (.const (.string BI)))]<|tB λy57 aXY=>tF [At (Dv aXY)]<|tL λaPE=>tF [A4 (Bv aPE (.tmp 52) (.tmp 55))]<|tL λaPF=>tF [A4 (Bv aPF (.tmp 44) (.tmp 56)),pi IR]<|tX rU id) λJK=>tC (λNF=>tH λy60 biK=>tL λbdO=>tF [A4 (Bv bdO (.tmp 46) (.tmp 47))]<|tB λy62 aXZ=>tF [At (Dv aXZ)]<|tL λaPG=>tF [A4 (Bv aPG (.tmp 48) (.tmp 50))]<|tL λaPH=>tF [A4 (Bv aPH (.tmp 51) (.const (.string BI)))]<|tB λy65 bfK=>tF [At (Dv bfK)]<|tL λaPI=>tF [A4 (Bv aPI (.tmp 52) (.tmp 55))]<|tL λaPJ=>tF [A4 (Bv aPJ (.tmp 44) (.tmp 56)),pi IR]<|tX rU id) λNF=>tH λy68 aYA=>tL λaPK=>tF [A4 (Bv aPK (.tmp 46) (.tmp 47))]<|tB λy70 aQI=>tF [At (Dv aQI)]<|tL λaPL=>tF [A4 (Bv aPL (.tmp 48) (.tmp 50))]<|tL λbdQ=>tF [A4 (Bv bdQ (.tmp 51) (.const (.string BI)))]<|tB λy73 bfL=>tF [At (Dv bfL)]<|tL λbdS=>tF [A4 (Bv bdS (.tmp 52) (.tmp 55))]<|tL λaPM=>tF [A4 (Bv aPM (.tmp 44) (.tmp 56)),pi IR]<|tX rU id) λaJZ bhZ=>tA rB .body
def B30:Code:=Ci Tryz.f30
def Jn(DV:Nd->Option ByteArray)(i0:Nat)(e0:Nd)(s3:ByteArray):Option (Lp ByteArray ByteArray ByteArray):=cond (Dd 0 ((i0:Nat):Int)) (Cs (s3.data.toList.length+F5.data.toList.length) ((DV e0).bind λy34=>Cs ((s3++F5).data.toList.length+y34.data.toList.length) (some (.nx ((s3++F5)++y34))))) ((DV e0).bind λy36=>Cs (s3.data.toList.length+y36.data.toList.length) (some (.nx (s3++y36))))
def LO(DV:Nd->Option ByteArray)(n:Nd):Option ByteArray:=cond (Bi n.kind 11) ((KZ n).bind λy1=>some y1) (cond (Bi n.kind 12) (some n.name) (cond (Bi n.kind 14) (some n.name) (cond (Bi n.kind 13) ((Ea n.n).bind λy2=>Cs (Sz.data.toList.length+y2.data.toList.length) (some (Sz++y2))) (cond (Bi n.kind 15) ((n.kids[0]?).bind λx4=>(DV x4).bind λy5=>Cs (L6.data.toList.length+y5.data.toList.length) (Cs ((L6++y5).data.toList.length+CX.data.toList.length) (some ((L6++y5)++CX)))) (cond (Bi n.kind 16) (cond (BD n.name.data.toList BI.data.toList) ((n.kids[0]?).bind λx8=>(DV x8).bind λy9=>Cs (Ec.data.toList.length+y9.data.toList.length) (Cs ((Ec++y9).data.toList.length+PF.data.toList.length) ((n.kids[1]?).bind λzH=>(DV zH).bind λkD=>Cs (((Ec++y9)++PF).data.toList.length+kD.data.toList.length) (some (((Ec++y9)++PF)++kD))))) ((n.kids[0]?).bind λx15=>(DV x15).bind λZQ=>Cs (Ec.data.toList.length+ZQ.data.toList.length) (Cs ((Ec++ZQ).data.toList.length+Ug.data.toList.length) (Cs (((Ec++ZQ)++Ug).data.toList.length+n.name.data.toList.length) (Cs ((((Ec++ZQ)++Ug)++n.name).data.toList.length+YP.data.toList.length) ((n.kids[1]?).bind λx21=>(DV x21).bind λy22=>Cs (((((Ec++ZQ)++Ug)++n.name)++YP).data.toList.length+y22.data.toList.length) (Cs ((((((Ec++ZQ)++Ug)++n.name)++YP)++y22).data.toList.length+CX.data.toList.length) (some ((((((Ec++ZQ)++Ug)++n.name)++YP)++y22)++CX))))))))) (cond (Bi n.kind 18) ((n.kids[0]?).bind λx25=>(DV x25).bind λjQ=>Cs (GM.data.toList.length+jQ.data.toList.length) (Cs ((GM++jQ).data.toList.length+YQ.data.toList.length) ((LP n.BK).bind λy29=>Cs (((GM++jQ)++YQ).data.toList.length+y29.data.toList.length) (Cs ((((GM++jQ)++YQ)++y29).data.toList.length+CX.data.toList.length) (some ((((GM++jQ)++YQ)++y29)++CX)))))) (Cs (n.name.data.toList.length+Ec.data.toList.length) ((Cs n.kids.length (Bs (λi y x=>Jn DV  i y x) (λx=>x) (n.kids.drop 0) 0 (n.name++Ec))).bind (H8 (λ(avJ:ByteArray)=>Cs (avJ.data.toList.length+CX.data.toList.length) (some (avJ++CX))) (λv=>some v))))))))))
def Z8(DV:Nd->Option ByteArray)(Gq:∀{n:Nd} {yR:ByteArray},DV n=some yR->Pure P (G mx) 30 [.agg (CW n)] (.zs yR)){n:Nd}{yR:ByteArray}(h:LO DV n=some yR):Pure P (G mx) 30 [.agg (CW n)] (.zs yR):=by
 apply uM h Tryz.func30;exact tC (λBN=>tB λy1 BL=>tF [At (V8 BL)]<|tA rU .body) λBN=>tC (λhb2=>tA rU .body) λhb2=>tC (λhb3=>tA rU .body) λhb3=>tC (λGC=>tB λy2 C5=>tF [At (Dv C5)]<|tL λhl3=>tF [A4 (Bv hl3 (.const (.string Sz)) (.tmp 21))]<|tA rU .body) λGC=>tC (λJK=>tB λx4 hx4=>tF [Fi (Du .lost hx4)]<|tB λy5 JR=>tF [At (Gq JR)]<|tL λhl6=>tF [A4 (Bv hl6 (.const (.string L6)) (.tmp 29))]<|tL λhl7=>tF [A4 (Bv hl7 (.tmp 30) (.const (.string CX)))]<|tA rU .body) λJK=>tC (λKD=>tC (λNF=>tB λx8 hx8=>tF [Fi (Du .lost hx8)]<|tB λy9 VD=>tF [At (Gq VD)]<|tL λhl10=>tF [A4 (Bv hl10 (.const (.string Ec)) (.tmp 41))]<|tL λZ1=>tF [A4 (Bv Z1 (.tmp 42) (.const (.string PF)))]<|tB λzH arX=>tF [Fi (Du .lost arX)]<|tB λkD U5=>tF [At (Gq U5)]<|tL λabM=>tF [A4 (Bv abM (.tmp 43) (.tmp 48))]<|tA rU .body) λNF=>tB λx15 arY=>tF [Fi (Du .lost arY)]<|tB λZQ YC=>tF [At (Gq YC)]<|tL λaOO=>tF [A4 (Bv aOO (.const (.string Ec)) (.tmp 54))]<|tL λaOP=>tF [A4 (Bv aOP (.tmp 55) (.const (.string Ug)))]<|tL λarH=>tF [A4 (Bv arH (.tmp 56) (.tmp 58))]<|tL λaOQ=>tF [A4 (Bv aOQ (.tmp 59) (.const (.string YP)))]<|tB λx21 akH=>tF [Fi (Du .lost akH)]<|tB λy22 kV=>tF [At (Gq kV)]<|tL λbdB=>tF [A4 (Bv bdB (.tmp 60) (.tmp 65))]<|tL λarJ=>tF [A4 (Bv arJ (.tmp 66) (.const (.string CX)))]<|tA rU .body) λKD=>tC (λO6=>tB λx25 beU=>tF [Fi (Du .lost beU)]<|tB λjQ kX=>tF [At (Gq kX)]<|tL λarK=>tF [A4 (Bv arK (.const (.string GM)) (.tmp 74))]<|tL λaOR=>tF [A4 (Bv aOR (.tmp 75) (.const (.string YQ)))]<|tB λy29 abS=>tF [At (XB abS)]<|tL λarL=>tF [A4 (Bv arL (.tmp 76) (.tmp 79))]<|tL λbdE=>tF [A4 (Bv bdE (.tmp 80) (.const (.string CX)))]<|tA rU .body) λO6=>tL λarM=>tF [A4 (Bv arM (.tmp 83) (.const (.string Ec)))]<|Mc (λv=>some v) 104 [8,9,12,13,14,17,18,23,24,32,33,36,68,69,89,94] [8,9,12,13,14,17,18,23,24,32,33,36,68,69,89,94] (λi0 s3=>[(3,.zs s3),(86,.sl .lost n.kids.length (BC n.kids)),(87,.zi ((n.kids.length:Nat):Int)),(88,.zi ((i0:Nat):Int))]) (λs3=>⟨[(0,.cells (CW n))],1,[],0⟩) [86,87,88] [] 1 (sb B30 244) [.code (sb B30 31)] (λ_=>rU) NH (λ_ i0 e0 s3 j0 Kz LC IR=>tF [pb (U6 LC),Fi (Du .lost Kz)]<|tC (λR3=>tL λarN=>tF [A4 (Bv arN (.tmp 95) (.const (.string F5)))]<|tB λy34 aXT=>tF [At (Gq aXT)]<|tL λarO=>tF [A4 (Bv arO (.tmp 97) (.tmp 99)),pi IR]<|tX rU id) λR3=>tB λy36 abT=>tF [At (Gq abT)]<|tL λaOU=>tF [A4 (Bv aOU (.tmp 97) (.tmp 99)),pi IR]<|tX rU id) λavJ bhU=>tL λaOW=>tF [A4 (Bv aOW (.tmp 102) (.const (.string CX)))]<|tA rB .body
def CS:Nat->Nd->Option ByteArray
 | 0,_=>none
 | qn+1,n=>LO (CS qn) n
def fL:∀qn:Nat,∀{n:Nd} {yR:ByteArray},CS qn n=some yR->Pure P (G mx) 30 [.agg (CW n)] (.zs yR):=by
 intro qn
 induction qn with
 | zero=>exact(λh=>by simp only[CS] at h;cases h)
 | succ qn ih=>exact(λh=>Z8 (CS qn) ih (by rw[CS] at h;exact h))
def Ge(n:Nd):Option ByteArray:=evt (λqn=>CS qn n)
def kY{n:Nd}{yR:ByteArray}(h:Ge n=some yR):Pure P (G mx) 30 [.agg (CW n)] (.zs yR):=by
 obtain⟨qn,h⟩:=kK h;exact(fL qn) h
instance {n:Nd}:Ht P (G mx) (Ge n):=⟨λ_ h=>[At (kY h)]⟩
def XW(year:Int):Option Bool:=cond (Bi (NA year 4) 0) (cond (Bi (NA year 100) 0) (cond (Bi (NA year 400) 0) (some true) (some false)) (some true)) (some false)
def aE{year:Int}{yR:Bool}(h:XW  year=some yR):Pure P (G mx) 187 [.zi year] (.zb yR):=by
 apply uM h Tryz.func187;exact tF [pk]<|tC (λBN=>tF [pk]<|tN (λhb2=>tF [pk]<|tC (λhb3=>tA rU .body) λhb3=>tA rU .body) λhb2=>tA rU .body) λBN=>tA rU .body
def L8(year:Int)(month:Int):Option Int:=cond (Bi month 4) (some 30) (cond (Bi month 6) (some 30) (cond (Bi month 9) (some 30) (cond (Bi month 11) (some 30) (cond (Bi month 2) ((XW year).bind λy1=>cond y1 (some 29) (some 28)) (some 31)))))
def S6{year:Int}{month:Int}{yR:Int}(h:L8  year month=some yR):Pure P (G mx) 165 [.zi year,.zi month] (.zi yR):=by
 apply uM h Tryz.func165;exact tC (λBN=>tA rU .body) λBN=>tC (λhb2=>tA rU .body) λhb2=>tC (λhb3=>tA rU .body) λhb3=>tC (λGC=>tA rU .body) λGC=>tC (λJK=>Qg (λy1 BL=>[At (aE BL)]) (λBL=>tA rU .body) λBL=>tA rU .body) λJK=>tA rU .body
instance {year:Int} {month:Int}:Ht P (G mx) (L8 year month):=⟨λ_ h=>[At (S6 h)]⟩
def aUL:Code:=Ci Tryz.f147
def HU(pO:Int)(Yg:Int)(Sj:Int):Option (Lp (Int×Int×Int) (Int×Int×Int) (Int×Int×Int)):=(L8 Yg Sj).bind λy1=>cond (LS y1 pO) (cond (Dd 12 (Bh Sj 1)) (some (.nx ((Ka pO y1),(Bh Yg 1),1))) (some (.nx ((Ka pO y1),Yg,(Bh Sj 1))))) (some (.ex (pO,Yg,Sj)))
def OA(day:Int):Option (Int×Int×Int):=cond (Dd day 0) (some (0,0,0)) (cond (Dd 36524 day) (some (0,0,0)) ((JI (λx=>HU   x.1 x.2.1 x.2.2) (day,2000,1)).bind (H8 (λ((aoR,aiZ,wR):(Int×Int×Int))=>some (aiZ,wR,(Bh aoR 1))) (λv=>some v))))
def aD{day:Int}{yR:(Int×Int×Int)}(h:OA  day=some yR):Pure P (G mx) 147 [.zi day] (.E9 [.zi yR.1,.zi yR.2.1,.zi yR.2.2]):=by
 apply uM h Tryz.func147;exact tC (λBN=>tA rU .body) λBN=>tC (λhb2=>tA rU .body) λhb2=>WD (λv=>some v) 33 [8,9,11,12,17,26] [8,9,11,12,17,26] (λ(pO,Yg,Sj)=>[(0,.zi pO),(5,.zi Yg),(6,.zi Sj)]) (λ(pO,Yg,Sj)=>⟨[],0,[],0⟩) [] [] 0 (sb aUL 248) [.code (sb aUL 63)] (λ_=>rU) NH (λ_ ⟨pO,Yg,Sj⟩ j0=>show T _ (HU   pO Yg Sj) _ from tH λy1 BL=>tC (λhb3=>tF [At (S6 BL),pk,pk]<|tC (λGC=>tF [pk]<|QK rU id) λGC=>QK rU id) λhb3=>cE rU id) λ⟨aoR,aiZ,wR⟩ Z7=>tF [pk]<|tA rB .body
def IV(n:Int):Option ByteArray:=some (aTG [(w8 (Bh 48 (Ux n 10))),(w8 (Bh 48 (NA n 10)))])
def gN{n:Int}{yR:ByteArray}(h:IV  n=some yR):Pure P (G mx) 148 [.zi n] (.zs yR):=by
 apply uM h Tryz.func148;exact tF [pk,pk,pk,pk,pcv (aMV .full [(w8 (Bh 48 (Ux n 10))),(w8 (Bh 48 (NA n 10)))])]<|tA rU .body
instance {n:Int}:Ht P (G mx) (IV n):=⟨λ_ h=>[At (gN h)]⟩
def EV(day:Int):Option ByteArray:=(OA day).bind λ(Et,Bq,y1c)=>cond (Bi Et 0) (some V4) ((IV (Ux Et 100)).bind λy2=>(IV (NA Et 100)).bind λy3=>Cs (y2.data.toList.length+y3.data.toList.length) (Cs ((y2++y3).data.toList.length+Fj.data.toList.length) ((IV Bq).bind λy6=>Cs (((y2++y3)++Fj).data.toList.length+y6.data.toList.length) (Cs ((((y2++y3)++Fj)++y6).data.toList.length+Fj.data.toList.length) ((IV y1c).bind λy9=>Cs (((((y2++y3)++Fj)++y6)++Fj).data.toList.length+y9.data.toList.length) (some (((((y2++y3)++Fj)++y6)++Fj)++y9)))))))
def aF{day:Int}{yR:ByteArray}(h:EV  day=some yR):Pure P (G mx) 112 [.zi day] (.zs yR):=by
 apply uM h Tryz.func112;exact tW3 λEt Bq y1c BL=>tF [At (aD BL)]<|tC (λBN=>tA rU .body) λBN=>tF [pk]<|tH λy2 C5=>tF [pk]<|tH λy3 F6=>tL λhl4=>tF [A4 (Bv hl4 (.tmp 16) (.tmp 19))]<|tL λhl5=>tF [A4 (Bv hl5 (.tmp 20) (.const (.string Fj)))]<|tH λy6 Mj=>tL λhl7=>tF [A4 (Bv hl7 (.tmp 21) (.tmp 23))]<|tL λhl8=>tF [A4 (Bv hl8 (.tmp 24) (.const (.string Fj)))]<|tH λy9 VD=>tL λhl10=>tF [A4 (Bv hl10 (.tmp 25) (.tmp 27))]<|tA rU .body
instance {day:Int}:Ht P (G mx) (EV day):=⟨λ_ h=>[At (aF h)]⟩
def B62:Code:=Ci Tryz.f62
def QZ(n:Nd)(i1:Nat)(e1:Nd)(s4:ByteArray):Option (Lp ByteArray ByteArray ByteArray):=cond (Dd 0 ((i1:Nat):Int)) (Cs (s4.data.toList.length+F5.data.toList.length) ((Ea e1.n).bind λy48=>Cs ((s4++F5).data.toList.length+y48.data.toList.length) (some (.nx ((s4++F5)++y48))))) ((Ea e1.n).bind λy50=>Cs (s4.data.toList.length+y50.data.toList.length) (some (.nx (s4++y50))))
def KH(n:Nd)(i0:Nat)(e0:Nd)(s4:ByteArray):Option (Lp ByteArray ByteArray ByteArray):=cond (Bi e0.kind 6) ((e0.kids[0]?).bind λx36=>(Ge x36).bind λy37=>Cs (DK.data.toList.length+y37.data.toList.length) (Cs ((DK++y37).data.toList.length+CV.data.toList.length) (Cs (s4.data.toList.length+((DK++y37)++CV).data.toList.length) (some (.nx (s4++((DK++y37)++CV))))))) (cond (Bi e0.kind 8) ((e0.kids[0]?).bind λx41=>(Ge x41).bind λy42=>Cs (Ct.data.toList.length+y42.data.toList.length) (Cs ((Ct++y42).data.toList.length+CV.data.toList.length) (Cs (s4.data.toList.length+((Ct++y42)++CV).data.toList.length) (some (.nx (s4++((Ct++y42)++CV))))))) (Cs (s4.data.toList.length+DJ.data.toList.length) ((Cs e0.kids.length (Bs (λi y x=>QZ  n i y x) (λx=>x) (e0.kids.drop 0) 0 (s4++DJ))).bind (H8 (λ(avK:ByteArray)=>Cs (avK.data.toList.length+CV.data.toList.length) (some (.nx (avK++CV)))) (λv=>some (.rt v))))))
def lA(n:Nd)(i3:Nat)(e3:Nd)(s4:ByteArray):Option (Lp ByteArray ByteArray ByteArray):=cond (Dd 0 ((i3:Nat):Int)) (Cs (s4.data.toList.length+F5.data.toList.length) ((Ea e3.n).bind λy68=>Cs ((s4++F5).data.toList.length+y68.data.toList.length) (some (.nx ((s4++F5)++y68))))) ((Ea e3.n).bind λy70=>Cs (s4.data.toList.length+y70.data.toList.length) (some (.nx (s4++y70))))
def kZ(n:Nd)(i2:Nat)(e2:Nd)(s4:ByteArray):Option (Lp ByteArray ByteArray ByteArray):=cond (Bi e2.kind 6) ((e2.kids[0]?).bind λx56=>(Ge x56).bind λy57=>Cs (DK.data.toList.length+y57.data.toList.length) (Cs ((DK++y57).data.toList.length+CV.data.toList.length) (Cs (s4.data.toList.length+((DK++y57)++CV).data.toList.length) (some (.nx (s4++((DK++y57)++CV))))))) (cond (Bi e2.kind 8) ((e2.kids[0]?).bind λx61=>(Ge x61).bind λy62=>Cs (Ct.data.toList.length+y62.data.toList.length) (Cs ((Ct++y62).data.toList.length+CV.data.toList.length) (Cs (s4.data.toList.length+((Ct++y62)++CV).data.toList.length) (some (.nx (s4++((Ct++y62)++CV))))))) (Cs (s4.data.toList.length+DJ.data.toList.length) ((Cs e2.kids.length (Bs (λi y x=>lA  n i y x) (λx=>x) (e2.kids.drop 0) 0 (s4++DJ))).bind (H8 (λ(avL:ByteArray)=>Cs (avL.data.toList.length+CV.data.toList.length) (some (.nx (avL++CV)))) (λv=>some (.rt v))))))
def Om(n:Nd):Option ByteArray:=cond (Bi n.kind 2) (Cs (I5.data.toList.length+n.name.data.toList.length) (Cs ((I5++n.name).data.toList.length+BV.data.toList.length) (Cs (((I5++n.name)++BV).data.toList.length+n.unit.data.toList.length) (Cs ((((I5++n.name)++BV)++n.unit).data.toList.length+CV.data.toList.length) (some ((((I5++n.name)++BV)++n.unit)++CV)))))) (cond (Bi n.kind 3) (Cs (Gm.data.toList.length+n.name.data.toList.length) (Cs ((Gm++n.name).data.toList.length+BV.data.toList.length) (Cs (((Gm++n.name)++BV).data.toList.length+n.unit.data.toList.length) (Cs ((((Gm++n.name)++BV)++n.unit).data.toList.length+lH.data.toList.length) ((F9 [dW,R8,V2,fF] (Ka n.n 1)).bind λx9=>Cs (((((Gm++n.name)++BV)++n.unit)++lH).data.toList.length+x9.data.toList.length) (Cs ((((((Gm++n.name)++BV)++n.unit)++lH)++x9).data.toList.length+CV.data.toList.length) (some ((((((Gm++n.name)++BV)++n.unit)++lH)++x9)++CV)))))))) ((n.kids[0]?).bind λzH=>(Ea n.n).bind λkD=>Cs (Bu.data.toList.length+kD.data.toList.length) (Cs ((Bu++kD).data.toList.length+CZ.data.toList.length) (Cs (((Bu++kD)++CZ).data.toList.length+n.name.data.toList.length) (Cs ((((Bu++kD)++CZ)++n.name).data.toList.length+CU.data.toList.length) ((Ea zH.n).bind λlU=>Cs (((((Bu++kD)++CZ)++n.name)++CU).data.toList.length+lU.data.toList.length) (Cs ((((((Bu++kD)++CZ)++n.name)++CU)++lU).data.toList.length+DI.data.toList.length) ((EV zH.fr).bind λy21=>Cs (((((((Bu++kD)++CZ)++n.name)++CU)++lU)++DI).data.toList.length+y21.data.toList.length) (cond (LS zH.to 36524) ((EV zH.to).bind λoR=>Cs (Lh.data.toList.length+oR.data.toList.length) (Cs ((((((((Bu++kD)++CZ)++n.name)++CU)++lU)++DI)++y21).data.toList.length+(Lh++oR).data.toList.length) ((EV zH.known).bind λjQ=>Cs (Cn.data.toList.length+jQ.data.toList.length) (Cs ((Cn++jQ).data.toList.length+PD.data.toList.length) (Cs (((((((((Bu++kD)++CZ)++n.name)++CU)++lU)++DI)++y21)++(Lh++oR)).data.toList.length+((Cn++jQ)++PD).data.toList.length) ((Vm n.kids 1 ((n.kids.length:Nat):Int)).bind λl30=>(Cs l30.length (Bs (λi y x=>KH  n i y x) (λx=>x) (l30.drop 0) 0 (((((((((Bu++kD)++CZ)++n.name)++CU)++lU)++DI)++y21)++(Lh++oR))++((Cn++jQ)++PD)))).bind (H8 (λ(nT:ByteArray)=>Cs (nT.data.toList.length+PE.data.toList.length) (some (nT++PE))) (λv=>some v)))))))) ((EV zH.known).bind λy31=>Cs (Cn.data.toList.length+y31.data.toList.length) (Cs ((Cn++y31).data.toList.length+PD.data.toList.length) (Cs ((((((((Bu++kD)++CZ)++n.name)++CU)++lU)++DI)++y21).data.toList.length+((Cn++y31)++PD).data.toList.length) ((Vm n.kids 1 ((n.kids.length:Nat):Int)).bind λl35=>(Cs l35.length (Bs (λi y x=>kZ  n i y x) (λx=>x) (l35.drop 0) 0 ((((((((Bu++kD)++CZ)++n.name)++CU)++lU)++DI)++y21)++((Cn++y31)++PD)))).bind (H8 (λ(avM:ByteArray)=>Cs (avM.data.toList.length+PE.data.toList.length) (some (avM++PE))) (λv=>some v)))))))))))))))
def Z9{n:Nd}{yR:ByteArray}(h:Om  n=some yR):Pure P (G mx) 62 [.agg (CW n)] (.zs yR):=by
 apply uM h Tryz.func62;exact tC (λBN=>tL λhl1=>tF [A4 (Bv hl1 (.const (.string I5)) (.tmp 14))]<|tL λhl2=>tF [A4 (Bv hl2 (.tmp 15) (.const (.string BV)))]<|tL λhl3=>tF [A4 (Bv hl3 (.tmp 16) (.tmp 18))]<|tL λhl4=>tF [A4 (Bv hl4 (.tmp 19) (.const (.string CV)))]<|tA rU .body) λBN=>tC (λhb2=>tL λhl5=>tF [A4 (Bv hl5 (.const (.string Gm)) (.tmp 24))]<|tL λhl6=>tF [A4 (Bv hl6 (.tmp 25) (.const (.string BV)))]<|tL λhl7=>tF [A4 (Bv hl7 (.tmp 26) (.tmp 28))]<|tL λhl8=>tF [A4 (Bv hl8 (.tmp 29) (.const (.string lH))),pk]<|tB λx9 hx9=>tF [Fi (aYD .full hx9)]<|tL λhl10=>tF [A4 (Bv hl10 (.tmp 30) (.tmp 36))]<|tL λZ1=>tF [A4 (Bv Z1 (.tmp 37) (.const (.string CV)))]<|tA rU .body) λhb2=>tB λzH arX=>tF [Fi (Du .lost arX)]<|tB λkD U5=>tF [At (Dv U5)]<|tL λabM=>tF [A4 (Bv abM (.const (.string Bu)) (.tmp 45))]<|tL λbcZ=>tF [A4 (Bv bcZ (.tmp 46) (.const (.string CZ)))]<|tL λaON=>tF [A4 (Bv aON (.tmp 47) (.tmp 49))]<|tL λaOO=>tF [A4 (Bv aOO (.tmp 50) (.const (.string CU)))]<|tB λlU Z4=>tF [At (Dv Z4)]<|tL λarH=>tF [A4 (Bv arH (.tmp 51) (.tmp 54))]<|tL λaOQ=>tF [A4 (Bv aOQ (.tmp 55) (.const (.string DI)))]<|tH λy21 Z6=>tL λarI=>tF [A4 (Bv arI (.tmp 56) (.tmp 59))]<|tC (λhb3=>tH λoR kW=>tL λarJ=>tF [A4 (Bv arJ (.const (.string Lh)) (.tmp 67))]<|tL λbdC=>tF [A4 (Bv bdC (.tmp 64) (.tmp 68))]<|tH λjQ kX=>tL λarK=>tF [A4 (Bv arK (.const (.string Cn)) (.tmp 73))]<|tL λaOR=>tF [A4 (Bv aOR (.tmp 74) (.const (.string PD)))]<|tL λaOS=>tF [A4 (Bv aOS (.tmp 70) (.tmp 75))]<|tB λl30 arL=>tF [Q9 (QI arL)]<|Mc (λv=>some v) 134 [11,12,21,22,63,82,93,98,109,110,120,121] [11,12,21,22,63,82,93,98,109,110,120,121] (λi0 s4=>[(4,.zs s4),(79,.sl .lost l30.length (BC l30)),(80,.zi ((l30.length:Nat):Int)),(81,.zi ((i0:Nat):Int))]) (λs4=>⟨[(1,.cells (CW zH)),(0,.cells (CW n))],2,[],0⟩) [79,80,81] [] 1 (sb B62 2036) [.code (sb B62 255)] (λ_=>rU) NH (λ_ i0 e0 s4 j0 Kz LC IR=>tF [pb (U6 LC),Fi (Du .lost Kz)]<|tC (λGC=>tB λx36 beX=>tF [Fi (Du .lost beX)]<|tH λy37 aAX=>tL λaOV=>tF [A4 (Bv aOV (.const (.string DK)) (.tmp 116))]<|tL λaOW=>tF [A4 (Bv aOW (.tmp 117) (.const (.string CV)))]<|tL λbdF=>tF [A4 (Bv bdF (.tmp 111) (.tmp 118)),pi IR]<|tX rU id) λGC=>tC (λJK=>tB λx41 beY=>tF [Fi (Du .lost beY)]<|tH λy42 bfF=>tL λaOX=>tF [A4 (Bv aOX (.const (.string Ct)) (.tmp 127))]<|tL λaOY=>tF [A4 (Bv aOY (.tmp 128) (.const (.string CV)))]<|tL λaOZ=>tF [A4 (Bv aOZ (.tmp 122) (.tmp 129)),pi IR]<|tX rU id) λJK=>tL λbdI=>tF [A4 (Bv bdI (.tmp 87) (.const (.string DJ)))]<|baC 134 [11,12,21,22,63,82,93,98,109,110,120,121] [11,12,21,22,63,82,93,98,109,110,120,121] (λi1 s4=>[(4,.zs s4),(79,.sl .lost l30.length (BC l30)),(80,.zi ((l30.length:Nat):Int)),(81,.zi ((i0:Nat):Int)),(90,.sl .lost e0.kids.length (BC e0.kids)),(91,.zi ((e0.kids.length:Nat):Int)),(92,.zi ((i1:Nat):Int))]) (λs4=>⟨[(2,.cells (CW e0)),(1,.cells (CW zH)),(0,.cells (CW n))],3,[],0⟩) [90,91,92] [] 4 (sb B62 133484020) [.code (sb B62 16685503),.V0 3,.V0 2,.code (sb B62 16295)] rU (λi1 e1 s4 j1 he1 hi1 mi1=>tF [pb (U6 hi1),Fi (Du .lost he1)]<|tC (λKD=>tL λaPA=>tF [A4 (Bv aPA (.tmp 99) (.const (.string F5)))]<|tB λy48 aQH=>tF [At (Dv aQH)]<|tL λbdK=>tF [A4 (Bv bdK (.tmp 101) (.tmp 104)),pi mi1]<|tX rU id) λKD=>tB λy50 bfI=>tF [At (Dv bfI)]<|tL λaPB=>tF [A4 (Bv aPB (.tmp 101) (.tmp 104)),pi mi1]<|tX rU id) λavK bhV=>tL λaPC=>tF [A4 (Bv aPC (.tmp 107) (.const (.string CV))),pi IR]<|tX rB id) λnT bhW=>tL λaPD=>tF [A4 (Bv aPD (.tmp 132) (.const (.string PE)))]<|tA rB .body) λhb3=>tH λy31 aQD=>tL λarM=>tF [A4 (Bv arM (.const (.string Cn)) (.tmp 73))]<|tL λarN=>tF [A4 (Bv arN (.tmp 74) (.const (.string PD)))]<|tL λaOT=>tF [A4 (Bv aOT (.tmp 70) (.tmp 75))]<|tB λl35 arO=>tF [Q9 (QI arO)]<|Mc (λv=>some v) 134 [11,12,21,22,63,82,93,98,109,110,120,121] [11,12,21,22,63,82,93,98,109,110,120,121] (λi2 s4=>[(4,.zs s4),(79,.sl .lost l35.length (BC l35)),(80,.zi ((l35.length:Nat):Int)),(81,.zi ((i2:Nat):Int))]) (λs4=>⟨[(1,.cells (CW zH)),(0,.cells (CW n))],2,[],0⟩) [79,80,81] [] 1 (sb B62 2036) [.code (sb B62 255)] (λ_=>rU) NH (λ_ i2 e2 s4 j2 he2 TX mi2=>tF [pb (U6 TX),Fi (Du .lost he2)]<|tC (λNF=>tB λx56 bfA=>tF [Fi (Du .lost bfA)]<|tH λy57 aXY=>tL λaPE=>tF [A4 (Bv aPE (.const (.string DK)) (.tmp 116))]<|tL λaPF=>tF [A4 (Bv aPF (.tmp 117) (.const (.string CV)))]<|tL λbdN=>tF [A4 (Bv bdN (.tmp 111) (.tmp 118)),pi mi2]<|tX rU id) λNF=>tC (λO6=>tB λx61 bfB=>tF [Fi (Du .lost bfB)]<|tH λy62 aXZ=>tL λaPG=>tF [A4 (Bv aPG (.const (.string Ct)) (.tmp 127))]<|tL λaPH=>tF [A4 (Bv aPH (.tmp 128) (.const (.string CV)))]<|tL λbdP=>tF [A4 (Bv bdP (.tmp 122) (.tmp 129)),pi mi2]<|tX rU id) λO6=>tL λaPI=>tF [A4 (Bv aPI (.tmp 87) (.const (.string DJ)))]<|baC 134 [11,12,21,22,63,82,93,98,109,110,120,121] [11,12,21,22,63,82,93,98,109,110,120,121] (λi3 s4=>[(4,.zs s4),(79,.sl .lost l35.length (BC l35)),(80,.zi ((l35.length:Nat):Int)),(81,.zi ((i2:Nat):Int)),(90,.sl .lost e2.kids.length (BC e2.kids)),(91,.zi ((e2.kids.length:Nat):Int)),(92,.zi ((i3:Nat):Int))]) (λs4=>⟨[(2,.cells (CW e2)),(1,.cells (CW zH)),(0,.cells (CW n))],3,[],0⟩) [90,91,92] [] 4 (sb B62 133484020) [.code (sb B62 16685503),.V0 3,.V0 2,.code (sb B62 16295)] rU (λi3 e3 s4 j3 he3 hi3 mi3=>tF [pb (U6 hi3),Fi (Du .lost he3)]<|tC (λR3=>tL λaPJ=>tF [A4 (Bv aPJ (.tmp 99) (.const (.string F5)))]<|tB λy68 aYA=>tF [At (Dv aYA)]<|tL λaPK=>tF [A4 (Bv aPK (.tmp 101) (.tmp 104)),pi mi3]<|tX rU id) λR3=>tB λy70 aQI=>tF [At (Dv aQI)]<|tL λaPL=>tF [A4 (Bv aPL (.tmp 101) (.tmp 104)),pi mi3]<|tX rU id) λavL bhX=>tL λbdR=>tF [A4 (Bv bdR (.tmp 107) (.const (.string CV))),pi mi2]<|tX rB id) λavM bhY=>tL λaPM=>tF [A4 (Bv aPM (.tmp 132) (.const (.string PE)))]<|tA rB .body
def B29:Code:=Ci Tryz.f29
def MJ(i0:Nat)(e0:Nd)(s3:ByteArray):Option (Lp ByteArray ByteArray ByteArray):=(Om e0).bind λy1=>Cs (y1.data.toList.length+xN.data.toList.length) (Cs (s3.data.toList.length+(y1++xN).data.toList.length) (some (.nx (s3++(y1++xN)))))
def On(n:Nd):Option ByteArray:=(Cs n.kids.length (Bs (λi y x=>MJ   i y x) (λx=>x) (n.kids.drop 0) 0 V4)).bind (H8 (λ(aZR:ByteArray)=>some aZR) (λv=>some v))
def aA{n:Nd}{yR:ByteArray}(h:On  n=some yR):Pure P (G mx) 29 [.agg (CW n)] (.zs yR):=by
 apply uM h Tryz.func29;exact Mc (λv=>some v) 20 [10] [10] (λi0 s3=>[(3,.zs s3),(7,.sl .lost n.kids.length (BC n.kids)),(8,.zi ((n.kids.length:Nat):Int)),(9,.zi ((i0:Nat):Int))]) (λs3=>⟨[(0,.cells (CW n))],1,[],0⟩) [7,8,9] [] 0 (sb B29 116) [.code (sb B29 15)] (λ_=>rU) NH (λ_ i0 e0 s3 j0 Kz LC IR=>tF [pb (U6 LC),Fi (Du .lost Kz)]<|tB λy1 BL=>tF [At (Z9 BL)]<|tL λhl2=>tF [A4 (Bv hl2 (.tmp 15) (.const (.string xN)))]<|tL λhl3=>tF [A4 (Bv hl3 (.tmp 13) (.tmp 16)),pi IR]<|tX rU id) λaZR asH=>tA rB .body
def B8:Code:=Ci Tryz.f8
def B4(more:Int)(s9:ByteArray)(iR:Int):Option (Lp (ByteArray×Int) ByteArray Bool):=cond (Dd iR (NA (w64 more) 4)) (Cs (Ec.data.toList.length+s9.data.toList.length) (Cs ((Ec++s9).data.toList.length+CX.data.toList.length) (some (.nx (((Ec++s9)++CX),(Bh iR 1)))))) (some (.ex s9))
def Fb(n:Nd)(more:Int):Option Bool:=(LR).bind λy1=>(Lx n 300).bind λy2=>cond y2 ((MU n).bind λy3=>cond y3 (cond (Bi n.kind 1) ((On n).bind λy4=>(C7 y4).bind λ(Tu,JF)=>cond y1 ((GF y4).bind λy6=>cond y6 (cond (Bi ((JF.length:Nat):Int) 0) ((GI Tu).bind λy7=>(Gt n).bind λy8=>(Hm y7 y8).bind λy9=>some y9) (some false)) (some true)) (some false)) ((Ge n).bind λZl=>(JI (λx=>B4  more x.1 x.2) (Zl,0)).bind (H8 (λ(nU:ByteArray)=>(BG nU).bind λ(WW,SQ)=>cond y1 ((GF nU).bind λsV=>cond sV (cond (Bi ((SQ.length:Nat):Int) 0) ((GI WW).bind λZQ=>(Gt n).bind λy17=>(Hm ZQ y17).bind λlU=>some lU) (some false)) (some true)) (some false)) (λv=>some v)))) (some y1)) (some y1)
def NJ{n:Nd}{more:Int}{yR:Bool}(h:Fb  n more=some yR):Pure P (G mx) 8 [.agg (CW n),.sc (.int .u8 more)] (.zb yR):=by
 apply uM h Tryz.func8;exact tB λy1 BL=>tF [At (aB BL)]<|tP (λC5=>Qg (λy3 F6=>[At (YZ F6)]) (λF6=>tC (λBN=>tB λy4 KE=>tF [At (aA KE)]<|tWH λTu JF JR=>(by cases y1 with | true=>exact Zc<|tP (λMj=>tC (λhb2=>tB λy7 V7=>tF [At (Qy V7)]<|tH λy8 S3=>tH λy9 VD=>tA rU .body) λhb2=>tA rU .body) λMj=>tA rU .body | false=>exact Zb<|tA rU .body)) λBN=>tH λZl QY=>tF [pk]<|tIo (λv=>some v) 84 [4,12,14,15,16,18,19,20,21,24,32,33,35,36,37,40,41,46,47,48,49,56,66,67,69,70,71,74,75,80,81,82,83] [4,12,14,15,16,18,19,20,21,24,32,33,35,36,37,40,41,46,47,48,49,56,66,67,69,70,71,74,75,80,81,82,83] (λ(s9,iR)=>[(2,.ptr 0 0),(5,.zb y1),(9,.zs s9),(54,.zi (NA (w64 more) 4)),(55,.zi iR)]) (λ(s9,iR)=>⟨[(0,.cells (CW n))],1,[],0⟩) (λs9=>[(2,.ptr 0 0),(5,.zb y1),(9,.zs s9)]) (λs9=>⟨[(0,.cells (CW n))],1,[],0⟩) [] 0 (sb B8 1012) [.code (sb B8 127)] (λ_=>rU) NH (λ_ ⟨s9,iR⟩ j0=>show T _ (B4  more s9 iR) _ from tC (λhb3=>tL λZ1=>tF [A4 (Bv Z1 (.const (.string Ec)) (.tmp 57))]<|tL λaOL=>tF [A4 (Bv aOL (.tmp 58) (.const (.string CX))),pk]<|QK rU id) λhb3=>cE rU id) λnU bhR=>tWH λWW SQ Xw=>(by cases y1 with | true=>exact Zc<|tP (λYB=>tC (λGC=>tB λZQ YC=>tF [At (Qy YC)]<|tH λy17 akI=>tH λlU Z4=>tA rB .body) λGC=>tA rB .body) λYB=>tA rB .body | false=>exact Zb<|tA rB .body)) λF6=>tA rU .body) λC5=>tA rU .body
end Mo
end Go.Proofs.YtpbkhogolfegfaaGreatDoor

namespace Go.Proofs.YtpbkhogolfegfaaGreatDoor
open AI Go
namespace Mo
set_option maxRecDepth 100000
set_option maxHeartbeats 4000000
def dO(s:ByteArray):Prop:=s.data.toList.length=3/\∀c∈s.data.toList,65<=c.toNat/\c.toNat<=90
def Kw(s:ByteArray):Prop:=s=E8\/s=Cp\/s=Dz\/dO s
def oP(c:UInt8):Prop:=(97<=c.toNat/\c.toNat<=122)\/(48<=c.toNat/\c.toNat<=57)\/c.toNat=95
def RD:List ByteArray:=[M6,JU,Dx,V3,Ml,NY,toS,IY,Nx,Ho,GU,E8,Cp,Dz,fX,dW,R8,V2,fF,rR,QR,LB,uK,Uu,O3,VV,IG,Yr,Mv,RY,KA,FX,IE]
def JW(s:ByteArray):Prop:=(1<=s.data.toList.length/\s.data.toList.length<=16)/\(∃b,s.data.toList[0]?=some b/\97<=b.toNat/\b.toNat<=122)/\s∉RD/\∀c∈s.data.toList,oP c
def Pg{n:Nd}(h:GZ n):n.BK.ps.length<=9223372036854775807/\n.kids.length<=9223372036854775807/\∀k∈n.kids,GZ k:=by
 obtain⟨a,b,c⟩:=(Pf n).1 h;exact⟨a.1,b,c⟩
def Wb{α:Type}{l:List α}{P:α->Prop}:(∀(i:Nat) (y:α),l[i]?=some y->P y)↔∀y∈l,P y :=
 ⟨λh y hy=>(List.getElem?_of_mem hy).elim λi hi=>h i y hi,λh i y hi=>h y (List.mem_of_getElem? hi)⟩
def wI(s:ByteArray):Ij s=some (mb (s∈RD)):=by
 rw[Ij];simp only[EJ,C4,LW,aBT];refine S8 ?_;simp only[RD,biX,bkW,or_false]
def aKA(s:ByteArray):s=V4↔s.data.toList.length=0:=by
 constructor;intro h;rw[h];rfl;intro h;apply ByteArray.ext;apply Array.ext';rw[biP h];rfl
def qF(s:ByteArray):Dl s=some (mb (JW s)):=by
 rw[Dl];simp only[EJ,IZ,C4,wI,NF];unfold JW;by_cases h0:s=V4;rw[Ay h0];exact NT λh=>by have:=(aKA s).1 h0;omega
 have h1:s.data.toList.length≠0:=λh=>h0 ((aKA s).2 h);rw[AD h0];by_cases h2:16 < ((s.data.toList.length:Nat):Int);rw[Ay h2];exact NT λh=>by omega
 rw[AD h2];obtain⟨b,hb⟩:∃b,s.data.toList[0]?=some b:=⟨_,abI (by omega)⟩
 rw[hb,Pb (v:=false) (P:=λ_ y=>oP y) (by omega) (λi y _=>by
   simp only[Pp,IZ,BY,C4,wH,asJ,akM,aQS,akN,bfW,aYI];congr 2;unfold oP;apply propext;omega)]
 simp only[NF,LW,aYQ,Wb];refine S8 ?_;constructor;rintro⟨h3,h4,h5,h6⟩;exact⟨by omega,⟨b,rfl,by omega⟩,h5,h6⟩;rintro⟨h3,⟨c,hc,h4⟩,h5,h6⟩;cases hc;exact⟨by omega,by omega,h5,h6⟩
def aRY(s:ByteArray):Kd s=some (mb (dO s)):=by
 rw[Kd,BY,C4];unfold dO;by_cases h:((s.data.toList.length:Nat):Int)=3
 rw[Ay h,Pb (v:=false) (P:=λ_ y=>65<=y.toNat/\y.toNat<=90) (by omega) (λi y _=>by
   simp only[Qz,IZ,C4,akM,akN];congr 2;apply propext;omega),LW,Wb]
 exact S8 ⟨λh2=>⟨by omega,h2⟩,λh2=>h2.2⟩;rw[AD h];exact NT λh2=>h (by omega)
def rT(s:ByteArray):D6 s=some (mb (Kw s)):=by
 rw[D6];simp only[EJ,C4,aRY,NF,aBT];rfl
def Iw(n:Int):Prop:=1<=n/\n<=1000000
def XT(n:Int):DB n=some (mb (Iw n)):=by
 rw[DB];simp only[G6,C4,LW,IM];rfl
def uX(n:Int):Prop:=0<=n/\n<=36524
def TM(s:ByteArray):Prop:=s=IG\/s=Yr\/s=Mv\/s=RY
def auQ(s:ByteArray):Ia s=some (mb (TM s)):=by
 rw[Ia];simp only[EJ,C4,LW,aBT];rfl
def auR(a b:List Pc)(ha:a.length<=9223372036854775807):Og a b=some (mb (a=b)):=by
 rw[Og,BY,C4];by_cases h:((a.length:Nat):Int)=((b.length:Nat):Int)
 rw[Ay h,Pb (v:=false) (P:=λi y=>b[i]?=some y) ha (λi y hy=>by
   have hi:i < a.length:=(abH.1 hy).1;have hb:b[i]?=some b[i]:=abI (by omega);simp only[Vw];rw[hb];simp only[NF]
   have hs:Rg y b[i]=mb (b[i]?=some y):=by
     rw[Bool.eq_iff_iff,BP,hb];unfold Rg;simp only[Bool.and_eq_true,O2,beq_iff_eq,aOE];generalize b[i]=z;cases y;cases z;simp only[Pc.mk.injEq];grind
   rw[hs,C4,wH,hb]),LW]
 refine S8 ⟨λh2=>?_,λh2 i y hy=>by rw[<- h2];exact hy⟩;apply List.ext_getElem?;intro i;by_cases hi:i < a.length;rw[abI hi,h2 i _ (abI hi)];rw[bkC (by omega),bkC (by omega)];rw[AD h];exact NT λh2=>h (by rw[h2])
def EZ(n f:Nd):Prop:=n.name=f.name/\n.unit=f.unit/\n.n=f.n/\n.fr=f.fr/\n.to=f.to/\n.known=f.known/\n.BK.den=f.BK.den/\n.BK.ps=f.BK.ps
def dD(n f:Nd)(h:n.BK.ps.length<=9223372036854775807):B1 n f=some (mb (EZ n f)):=by
 rw[B1,auR _ _ h];simp only[EJ,BY,C4,NF,IM];rfl
def LA{p:Prop}(h:¬p):mb p=false:=by rw[ZI];exact h
def Out(r:Option (Bool×Int))(P:Prop)(t:Int):Prop:=∃z,r=some (mb P,z)/\(P->z=t)
def Out.congr{r:Option (Bool×Int)}{P Q:Prop}{t u:Int}(h:Out r P t)(hp:P↔Q)(ht:Q->t=u):Out r Q u:=by
 obtain⟨z,h1,h2⟩:=h;exact⟨z,by rw[h1,LY hp],λq=>(h2 (hp.2 q)).trans (ht q)⟩
def KB{Q:Prop}{z u:Int}(h:¬Q):Out (some (false,z)) Q u:=⟨z,by rw[LA h],λq=>absurd q h⟩
def XJ{P Q:Prop}{u:Int}(h:P↔Q):Out (some (mb P,u)) Q u:=⟨u,by rw[LY h],λ_=>rfl⟩
def H9{p Q:Prop}{A:Option (Bool×Int)}{z u:Int}(h:p->Out A Q u)(hq:Q->p):Out (FW p A (some (false,z))) Q u:=by
 by_cases hp:p;rw[Ay hp];exact h hp;rw[AD hp];exact KB λq=>hp (hq q)
def xB{p Q:Prop}{A:Option (Bool×Int)}{z u:Int}(h:¬p->Out A Q u)(hq:Q->¬p):Out (FW p (some (false,z)) A) Q u:=by
 by_cases hp:p;rw[Ay hp];exact KB λq=>hq q hp;rw[AD hp];exact h hp
mutual
def Cr:Nd->Nat
 | ⟨_,_,_,_,_,_,_,_,kids,_⟩=>1+D7 kids
def D7:List Nd->Nat
 | []=>0
 | k::ks=>Cr k+D7 ks
end
mutual
def Mq:Nd->Nat
 | ⟨_,_,_,_,_,_,_,_,kids,_⟩=>1+Yh kids
def Yh:List Nd->Nat
 | []=>0
 | k::ks=>max (Mq k) (Yh ks)
end
def Cu(n:Nd):Cr n=1+D7 n.kids:=by cases n;rw[Cr]
def Ky(n:Nd):Mq n=1+Yh n.kids:=by cases n;rw[Mq]
def Yu{l:List Nd}{m:Nat}:Yh l<=m↔∀k∈l,Mq k<=m:=by
 induction l with
 | nil=>simp[Yh]
 | cons a l ih=>simp only[Yh,Nat.max_le,ih,biX,forall_eq_or_imp]
def JE{l:List Nd}{k:Nd}(h:k∈l):Cr k<=D7 l:=by
 induction l with
 | nil=>cases h
 | cons a l ih =>
   rw[D7];rcases biX.1 h with rfl | h
   omega;have:=ih h;omega
def Ja(l:List Nd):l.length<=D7 l:=by
 induction l with
 | nil=>simp[D7]
 | cons a l ih=>rw[D7,Cu];simp only[Yy];omega
def MY{n k:Nd}(h:k∈n.kids):Cr k < Cr n:=by rw[Cu n];have:=JE h;omega
def TC{g:Ck->Nd->Int->Option (Bool×Int)}{p:Nd->Prop}{d:Int}:∀{l:List Nd} {i:Nat} {c:Int},0<=c->c<=2000->(∀k∈l,∀c:Int,0<=c->c<=2000->Out (g ⟨c⟩ k d) (p k/\c+Cr k<=2000/\d+Mq k<=41) (c+Cr k)) ->
   Out ((Bs (δ:=Int) (ρ:=Bool×Int) (λ_ y (x:Int)=>(g ⟨x⟩ y d).bind λ(Et,Bq)=>cond Et (some (.nx Bq)) (some (.rt (false,Bq)))) (λx=>x) l i c).bind (H8 (λ(w:Int)=>some (true,w)) (λv=>some v)))
     ((∀k∈l,p k/\d+Mq k<=41)/\c+D7 l<=2000) (c+D7 l)
 | [],i,c,h0,h1,_=>⟨c,by rw[BP.2 ⟨λk hk=>(by cases hk),by simp only[D7];omega⟩];rfl,λ_=>by simp[D7]⟩
 | y::l,i,c,h0,h1,hg=>by
   obtain⟨z,hz,h2⟩:=hg y (by simp) c h0 h1;rw[Bs,hz];simp only[NF];by_cases hp:p y/\c+Cr y<=2000/\d+Mq y<=41;rw[BP.2 hp,h2 hp];show Out ((Bs _ _ l (i+1) (c+Cr y)).bind _) _ _;refine(TC (l:=l) (i:=i+1) (c:=c+Cr y) (by omega) hp.2.1 λk hk=>hg k (by simp[hk])).congr ?_ ?_;rw[D7];simp only[biX,forall_eq_or_imp,brU];constructor;rintro⟨a,b⟩;exact⟨⟨⟨hp.1,hp.2.2⟩,a⟩,by omega⟩;rintro⟨⟨_,a⟩,b⟩;exact⟨a,by omega⟩;intro _;rw[D7];omega;rw[LA hp];refine⟨z,?_,λq=>?_⟩;show some (false,z)=_;rw[LA];rintro⟨a,b⟩;rw[D7] at b;have:=a y (by simp);exact hp ⟨this.1,by omega,this.2⟩;exfalso;obtain⟨a,b⟩:=q;rw[D7] at b;have:=a y (by simp);exact hp ⟨this.1,by omega,this.2⟩
def fZ(n:Nd){c d:Int}(h0:0<=c)(h1:c<=2000):Out (Cy ⟨c⟩ n d) (c+1<=2000/\d<=40) (c+1):=by
 rw[Cy,Ca (by show _<=c+1/\c+1<=_;omega)];simp only[G6,C4,NF];by_cases h:c+1<=2000;rw[Ay h];exact XJ ⟨λa=>⟨h,a⟩,λa=>a.2⟩;rw[AD h];exact KB λa=>h a.1
def XR(f:Fn)(i:Nat)(p:Pc):Prop:=p.fr<=999999999999/\(∀q,0 < i->f.ps[i - 1]?=some q->q.fr < p.fr)/\Xm p.Bc f.den=some 0/\p.Bc<=CK 999999999999 f.den/\CK (-999999999999) f.den<=p.Bc/\p.BJ<=1000000/\-1000000<=p.BJ
def Zd(f:Fn):Prop:=Iw f.den/\(1<=f.ps.length/\f.ps.length<=64)/\(∀x,f.ps[0]?=some x->x.fr=0)/\∀(i:Nat) p,f.ps[i]?=some p->XR f i p
def baE(f:Fn)(hl:f.ps.length<=9223372036854775807):I1 f=some (mb (Zd f)):=by
 rw[I1,XT];simp only[NF,C4,IZ,BY];unfold Zd;by_cases hr:Iw f.den;rotate_left;rw[AD hr];exact NT λh=>hr h.1;rw[Ay hr];by_cases h1:((f.ps.length:Nat):Int) < 1;rw[Ay h1];exact NT λh=>by omega
 rw[AD h1];by_cases h2:64 < ((f.ps.length:Nat):Int);rw[Ay h2];exact NT λh=>by omega
 rw[AD h2];have hx0:f.ps[0]?=some f.ps[0]:=abI (by omega);rw[hx0];simp only[NF];by_cases h3:f.ps[0].fr=0;rotate_left;rw[AD h3];exact NT λh=>h3 (h.2.2.1 _ rfl);rw[Ay h3];have aAS:f.den≠0:=by unfold Iw at hr;omega
 rw[Pb (v:=false) (P:=λi y=>XR f i y) hl (λi y hy=>by
   have hi:i < f.ps.length:=(abH.1 hy).1;simp only[N7,IZ,C4,G6,BY];have hd:∃z,Xm y.Bc f.den=some z:=by unfold Xm;rw[if_neg aAS];exact⟨_,rfl⟩
   obtain⟨z,hz⟩:=hd;unfold XR;rw[hz];by_cases h0:(0:Int) < ((i:Nat):Int);rw[Ay h0,FH (by omega)];have hq:f.ps[i - 1]?=some f.ps[i - 1]:=abI (by omega)
   have hg:F9 f.ps (((i:Nat):Int) - 1)=some f.ps[i - 1]:=by
     unfold F9;rw[show(((i:Nat):Int) - 1).toNat=i - 1 by omega];simp only[hq]
     first | rfl | (rw[if_pos (by omega)])
   rw[hg,hq];simp only[NF,akM,akN,asJ,aQS];congr 2;apply propext;simp only[aOE,forall_eq'];grind;rw[AD h0];simp only[NF,akM,akN,asJ,aQS];congr 2;apply propext;simp only[aOE];have:¬0 < i:=by omega
   grind),LW]
 refine S8 ⟨λh=>⟨hr,by omega,λx hx=>by cases hx;exact h3,h⟩,λh=>h.2.2.2⟩
def bU(s:ByteArray):Prop:=s=BI\/s=rR\/s=QR\/s=I4\/s=J6\/s=Mg\/s=Jt\/s=Sx\/s=Fj\/s=Ve\/s=uK
def Qb(k:Nd):Prop:=k.kind=11/\k.unit=Cp/\Iw k.n
def U3(n:Nd):Prop :=
 (n.kind=11/\Kw n.unit/\0<=n.n/\n.n<=999999999999/\(n.unit=E8->n.n<=1)/\n.kids.length=0/\EZ n ⟨0,V4,n.unit,n.n,0,0,0,⟨0,[]⟩,[],0⟩) \/
 (n.kind=12/\JW n.name/\n.kids.length=0/\EZ n ⟨0,n.name,V4,0,0,0,0,⟨0,[]⟩,[],0⟩) \/
 (n.kind=13/\Iw n.n/\n.kids.length=0/\EZ n ⟨0,V4,V4,n.n,0,0,0,⟨0,[]⟩,[],0⟩) \/
 (n.kind=14/\TM n.name/\n.kids.length=0/\EZ n ⟨0,n.name,V4,0,0,0,0,⟨0,[]⟩,[],0⟩) \/
 (n.kind=15/\n.kids.length=1/\EZ n ⟨0,V4,V4,0,0,0,0,⟨0,[]⟩,[],0⟩) \/
 (n.kind=16/\EZ n ⟨0,n.name,V4,0,0,0,0,⟨0,[]⟩,[],0⟩/\n.kids.length=2/\bU n.name/\(n.name=BI->∀k,n.kids[1]?=some k->Qb k)) \/
 (n.kind=17/\(n.name=KA\/n.name=FX)/\EZ n ⟨0,n.name,V4,0,0,0,0,⟨0,[]⟩,[],0⟩/\2<=n.kids.length) \/
 (n.kind=18/\EZ n ⟨0,V4,V4,0,0,0,0,n.BK,[],0⟩/\Zd n.BK/\n.kids.length=1)
mutual
def OQ:Nd->Prop
 | ⟨kind,name,unit,n,fr,to,known,BK,kids,Bc⟩=>U3 ⟨kind,name,unit,n,fr,to,known,BK,kids,Bc⟩/\apY kids
def apY:List Nd->Prop
 | []=>True
 | k::ks=>OQ k/\apY ks
end
def apZ{l:List Nd}:apY l↔∀k∈l,OQ k:=by
 induction l with
 | nil=>simp[apY]
 | cons k l ih=>simp[apY,ih]
def MF(n:Nd):OQ n↔U3 n/\∀k∈n.kids,OQ k:=by cases n;rw[OQ,apZ]
def Ng{r:Option (Bool×Int)}{P Q:Prop}{t u:Int}{f:Bool×Int->Option (Bool×Int)}(h:Out r P t)(hT:P->Out (f (true,t)) Q u)(hF:∀z,¬P->Out (f (false,z)) Q u):Out (r.bind f) Q u:=by
 obtain⟨z,rfl,h2⟩:=h;by_cases hp:P;rw[BP.2 hp,h2 hp];exact hT hp;rw[LA hp];exact hF z hp
def aRW{Q:Prop}{t u:Int}(hq:Q)(h:t=u):Out (some (true,t)) Q u:=⟨t,by rw[BP.2 hq],λ_=>h⟩
def Nf{r:Option (Bool×Int)}{P Q:Prop}{t u:Int}(h:Out r P t)(hp:P↔Q)(ht:P->t=u):Out (r.bind λ(a,b)=>some (a,b)) Q u :=
 Ng h (λp=>aRW (hp.1 p) (ht p)) λ_ p=>KB λq=>p (hp.2 q)
section
variable {p q r:Prop} {z:Int}
def rS:FW p (some (mb q,z)) (some (false,z))=some (mb (p/\q),z):=by
 by_cases h:p;rw[Ay h];congr 2;exact LY ⟨λa=>⟨h,a⟩,λa=>a.2⟩;rw[AD h,LA];exact λa=>h a.1
def acQ:FW p (some (false,z)) (some (mb q,z))=some (mb (¬p/\q),z):=by
 by_cases h:p;rw[Ay h,LA];exact λa=>a.1 h;rw[AD h];congr 2;exact LY ⟨λa=>⟨h,a⟩,λa=>a.2⟩
def akZ:FW p (some (mb q,z)) (some (mb r,z))=some (mb ((p->q)/\(¬p->r)),z):=by
 by_cases h:p;rw[Ay h];congr 2;exact LY ⟨λa=>⟨λ_=>a,λb=>absurd h b⟩,λa=>a.1 h⟩;rw[AD h];congr 2;exact LY ⟨λa=>⟨λb=>absurd b h,λ_=>a⟩,λa=>a.2 h⟩
end
section
variable {n:Nd}
def aaY(h:n.kind=11):U3 n↔Kw n.unit/\0<=n.n/\n.n<=999999999999/\(n.unit=E8->n.n<=1)/\n.kids.length=0/\EZ n ⟨0,V4,n.unit,n.n,0,0,0,⟨0,[]⟩,[],0⟩:=by unfold U3;simp[h]
def apN(h:n.kind=12):U3 n↔JW n.name/\n.kids.length=0/\EZ n ⟨0,n.name,V4,0,0,0,0,⟨0,[]⟩,[],0⟩:=by unfold U3;simp[h]
def apO(h:n.kind=13):U3 n↔Iw n.n/\n.kids.length=0/\EZ n ⟨0,V4,V4,n.n,0,0,0,⟨0,[]⟩,[],0⟩:=by unfold U3;simp[h]
def apP(h:n.kind=14):U3 n↔TM n.name/\n.kids.length=0/\EZ n ⟨0,n.name,V4,0,0,0,0,⟨0,[]⟩,[],0⟩:=by unfold U3;simp[h]
def apQ(h:n.kind=15):U3 n↔n.kids.length=1/\EZ n ⟨0,V4,V4,0,0,0,0,⟨0,[]⟩,[],0⟩:=by unfold U3;simp[h]
def apR(h:n.kind=16):U3 n↔EZ n ⟨0,n.name,V4,0,0,0,0,⟨0,[]⟩,[],0⟩/\n.kids.length=2/\bU n.name/\(n.name=BI->∀k,n.kids[1]?=some k->Qb k):=by unfold U3;simp[h]
def apS(h:n.kind=17):U3 n↔(n.name=KA\/n.name=FX)/\EZ n ⟨0,n.name,V4,0,0,0,0,⟨0,[]⟩,[],0⟩/\2<=n.kids.length:=by unfold U3;simp[h]
def apT(h:n.kind=18):U3 n↔EZ n ⟨0,V4,V4,0,0,0,0,n.BK,[],0⟩/\Zd n.BK/\n.kids.length=1:=by unfold U3;simp[h]
def Xp(h:U3 n):n.kind=11\/n.kind=12\/n.kind=13\/n.kind=14\/n.kind=15\/n.kind=16\/n.kind=17\/n.kind=18:=by
 unfold U3 at h;rcases h with h | h | h | h | h | h | h | h
 all_goals
   have:=h.1;simp[this]
end
def Qs(l:List Nd)(c d:Int):Prop:=(∀k∈l,OQ k/\d+Mq k<=41)/\c+D7 l<=2000
def aIX{l:List Nd}{c d:Int}(h:l.length=0)(hc:c<=2000):Qs l c d/\c=c+D7 l:=by
 obtain rfl:=biP h;exact⟨⟨(λk hk=>(by cases hk)),(by simp only[D7];omega)⟩,(by simp[D7])⟩
def aIY{x:Nd}{c d:Int}:Qs [x] c d↔OQ x/\c+Cr x<=2000/\d+Mq x<=41:=by
 unfold Qs;simp only[bjB,forall_eq,D7,bkH];exact⟨λa=>⟨a.1.1,a.2,a.1.2⟩,λa=>⟨⟨a.1,a.2.2⟩,a.2.1⟩⟩
def wJ{x y:Nd}{c d:Int}:Qs [x,y] c d↔(OQ x/\c+Cr x<=2000/\d+Mq x<=41)/\OQ y/\c+Cr x+Cr y<=2000/\d+Mq y<=41:=by
 unfold Qs;simp only[biX,bkW,or_false,forall_eq_or_imp,forall_eq,D7,bkH,brU];constructor;rintro⟨⟨⟨a,b⟩,c',d'⟩,e⟩;exact⟨⟨a,by omega,b⟩,c',by omega,d'⟩;rintro⟨⟨a,b,c'⟩,d',e,f⟩;exact⟨⟨⟨a,c'⟩,d',f⟩,by omega⟩
abbrev ExS(g:Ck->Nd->Int->Option (Bool×Int))(n:Nd):Prop:=∀(c d:Int),0<=c->c<=2000->0<=d->d<=41->Out (g ⟨c⟩ n d) (OQ n/\c+Cr n<=2000/\d+Mq n<=41) (c+Cr n)
def nG{g:Ck->Nd->Int->Option (Bool×Int)}{b a:Ck->Nd->Int->Option (Bool×Int)}{l:Ck->List Nd->Int->Option (Bool×Int)}{n:Nd}(h:ExS g n){c d:Int}(h0:0<=c)(h1:c<=2000)(h2:0<=d)(h3:d<=41) :
   Out (Dr g b a l ⟨c⟩ n d) ((OQ n/\Qb n)/\c+Cr n<=2000/\d+Mq n<=41) (c+Cr n):=by
 rw[Dr];simp only[BY,EJ,C4,XT,NF];refine Ng (h c d h0 h1 h2 h3) (λhp=>?_) λz hp=>KB λq=>hp ⟨q.1.1,q.2⟩;show Out (FW (n.kind=11) (FW (n.unit=Cp) (some (mb (Iw n.n),c+Cr n)) (some (false,c+Cr n))) (some (false,c+Cr n))) _ _;rw[rS,rS];exact XJ ⟨λa=>⟨⟨hp.1,a⟩,hp.2⟩,λa=>a.1.2⟩
def ajM{g n':Ck->Nd->Int->Option (Bool×Int)}{b:Ck->Nd->Int->Option (Bool×Int)}{l:Ck->List Nd->Int->Option (Bool×Int)}{n:Nd}(hg:∀k∈n.kids,ExS g k)
   (hn:∀k∈n.kids,∀c d:Int,0<=c->c<=2000->0<=d->d<=41->Out (n' ⟨c⟩ k d) ((OQ k/\Qb k)/\c+Cr k<=2000/\d+Mq k<=41) (c+Cr k)) {c d:Int} (h0:0<=c) (h1:c<=2000) (h2:0<=d) (h3:d<=40) :
   Out (Dq g b n' l ⟨c⟩ n d) ((n.kids.length=2/\bU n.name/\(n.name=BI->∀k,n.kids[1]?=some k->Qb k))/\Qs n.kids c (d+1)) (c+D7 n.kids):=by
 rw[Dq,Ca (by omega)];simp only[BY,EJ,C4];generalize hl:n.kids=ks at *;by_cases hlen:((ks.length:Nat):Int)=2;rotate_left;rw[AD hlen];exact KB λq=>hlen (by have:=q.1.1;omega);rw[Ay hlen]
 match ks,hlen with
 | [x,y],_ =>
 simp only[bjV,List.getElem?_cons_succ,NF];refine Ng (hg x (by simp) c (d+1) h0 h1 (by omega) (by omega)) (λhx=>?_) λz hx=>KB λq=>hx (wJ.1 q.2).1;dsimp only;rw[cond_true];have hsz:D7 [x,y]=Cr x+Cr y:=by simp[D7]
 have hy:=λhc=>hg y (by simp) (c+Cr x) (d+1) (by omega) hc (by omega) (by omega);have hn':=λhc=>hn y (by simp) (c+Cr x) (d+1) (by omega) hc (by omega) (by omega);have hy:=hy hx.2.1;have hn':=hn' hx.2.1;by_cases hs:n.name=BI;rw[Ay hs];refine Nf hn' ⟨λa=>⟨⟨rfl,.inl hs,λ_ k hk=>by cases hk;exact a.1.2⟩,wJ.2 ⟨hx,a.1.1,a.2⟩⟩,λa=>?_⟩ (λa=>by rw[hsz];omega);have:=(wJ.1 a.2).2;exact⟨⟨this.1,a.1.2.2 hs y rfl⟩,this.2⟩;rw[AD hs]
 have fin:∀Zz:bU n.name,Out ((g ⟨c+Cr x⟩ y (d+1)).bind λ(a,b)=>some (a,b)) ((([x,y]:List Nd).length=2/\bU n.name/\(n.name=BI->∀k,some y=some k->Qb k))/\Qs [x,y] c (d+1)) (c+D7 [x,y]):=λZz =>
   Nf hy ⟨λa=>⟨⟨rfl,Zz,λe=>absurd e hs⟩,wJ.2 ⟨hx,a⟩⟩,λa=>(wJ.1 a.2).2⟩ (λa=>by rw[hsz];omega)
 have step:∀{s:ByteArray} {A:Option (Bool×Int)},(n.name=s->bU n.name)->(n.name≠s->Out A ((([x,y]:List Nd).length=2/\bU n.name/\(n.name=BI->∀k,some y=some k->Qb k))/\Qs [x,y] c (d+1)) (c+D7 [x,y])) ->
     Out (FW (n.name=s) ((g ⟨c+Cr x⟩ y (d+1)).bind λ(a,b)=>some (a,b)) A) ((([x,y]:List Nd).length=2/\bU n.name/\(n.name=BI->∀k,some y=some k->Qb k))/\Qs [x,y] c (d+1)) (c+D7 [x,y]):=by
   intro s A h4 h5;by_cases h:n.name=s;rw[Ay h];exact fin (h4 h);rw[AD h];exact h5 h
 refine step (λe=>by unfold bU;simp[e]) λe1=>?_;refine step (λe=>by unfold bU;simp[e]) λe2=>?_;refine step (λe=>by unfold bU;simp[e]) λe3=>?_;refine step (λe=>by unfold bU;simp[e]) λe4=>?_;refine step (λe=>by unfold bU;simp[e]) λe5=>?_;refine step (λe=>by unfold bU;simp[e]) λe6=>?_;refine step (λe=>by unfold bU;simp[e]) λe7=>?_;refine step (λe=>by unfold bU;simp[e]) λe8=>?_;refine step (λe=>by unfold bU;simp[e]) λe9=>?_;refine step (λe=>by unfold bU;simp[e]) λe10=>?_
 exact KB λq=>by
   have:=q.1.2.1;unfold bU at this;simp[hs,e1,e2,e3,e4,e5,e6,e7,e8,e9,e10] at this
def asS{A L B T:Prop}{x:Int}:(A/\¬x < 0/\¬999999999999 < x/\(T->¬1 < x/\L/\B)/\(¬T->L/\B))↔A/\0<=x/\x<=999999999999/\(T->x<=1)/\L/\B:=by
 constructor;rintro⟨a,b,c,d,e⟩;by_cases t:T;exact⟨a,by omega,by omega,λ_=>by have:=(d t).1;omega,(d t).2⟩;exact⟨a,by omega,by omega,λh=>absurd h t,e t⟩;rintro⟨a,b,c,d,e⟩;exact⟨a,by omega,by omega,λt=>⟨by have:=d t;omega,e⟩,λ_=>e⟩
def apW:∀(q:Nat) (n:Nd),GZ n->3*Cr n<=q->ExS (An q) n:=by
 intro q
 induction q using Nat.strongRecOn with
 | _ q ih =>
 intro n MG hq c d h0 h1 h2 h3;have hsz:=Cu n;obtain⟨q,rfl⟩:∃k,q=k+1:=⟨q - 1,by omega⟩;obtain⟨jX,bI,Tj⟩:=Pg MG;have hE:∀k∈n.kids,∀q',q<=q'+2->q' < q+1->ExS (An q') k:=λk hk q' h4 h5=>ih q' h5 k (Tj k hk) (by have:=JE hk;omega);rw[An,Fe];refine Ng (fZ n h0 h1) (λhp=>?_) λz hp=>KB λa=>hp ⟨by omega,by have:=Ky n;omega⟩;dsimp only;rw[cond_true];refine Out.congr (P:=U3 n/\Qs n.kids (c+1) (d+1)) (t:=(c+1)+D7 n.kids) ?_ ?_ (λ_=>by omega);rotate_left;rw[MF,Ky];unfold Qs;have hd:=@Yu n.kids;constructor;rintro⟨a,b,e⟩;refine⟨⟨a,λk hk=>(b k hk).1⟩,by omega,?_⟩;have:=(hd (m:=(40 - d).toNat)).2 λk hk=>by have:=(b k hk).2;omega
 omega;rintro⟨⟨a,b⟩,e,f⟩;refine⟨a,λk hk=>⟨b k hk,?_⟩,by omega⟩;have:=(hd (m:=Yh n.kids)).1 (aOC _) k hk;omega;have hc1:=hp.1;have hd1:=hp.2;rw[Ca (a:=d) (b:=1) (by omega)];have e0:(((n.kids.length:Nat):Int)=0)=(n.kids.length=0):=propext (by omega);simp only[BY,G6,IZ,EJ,C4,rT,qF,XT,auQ,baE _ jX,dD _ _ jX,NF,e0];have fA:∀{B:Prop},(B↔U3 n)->(B->n.kids.length=0)->Out (some (mb B,c+1)) (U3 n/\Qs n.kids (c+1) (d+1)) (c+1+D7 n.kids):=λhB hk=>(XJ hB).congr ⟨λa=>⟨a,(aIX (hk (hB.2 a)) hc1).1⟩,λa=>a.1⟩ λa=>(aIX (d:=d+1) (hk (hB.2 a.1)) hc1).2
 have hone:∀{B:Prop},(U3 n↔B/\n.kids.length=1)->B->n.kids.length=1->Out ((n.kids[0]?).bind λx=>(An q ⟨c+1⟩ x (d+1)).bind λ(a,b)=>some (a,b)) (U3 n/\Qs n.kids (c+1) (d+1)) (c+1+D7 n.kids):=by
   intro B hB hb hl;have hE0:=λk hk=>hE k hk q (by omega) (by omega);have hx:=hB.2 ⟨hb,hl⟩;generalize n.kids=ks at *
   match ks,hl with
   | [x],_ =>
   simp only[bjV,NF];refine Nf (hE0 x (by simp) (c+1) (d+1) (by omega) hc1 (by omega) (by omega)) ⟨λa=>⟨hx,aIY.2 a⟩,λa=>aIY.1 a.2⟩ λ_=>?_;simp[D7]
 by_cases jY:n.kind=11;rw[Ay jY];simp only[rS,acQ,akZ];refine fA ?_ ?_;rw[aaY jY];exact asS;intro h;exact(asS.1 h).2.2.2.2.1;rw[AD jY];by_cases mU:n.kind=12;rw[Ay mU];simp only[rS,acQ,akZ];refine fA ?_ ?_;rw[apN mU];intro h;exact h.2.1;rw[AD mU];by_cases jZ:n.kind=13;rw[Ay jZ];simp only[rS,acQ,akZ];refine fA ?_ ?_;rw[apO jZ];intro h;exact h.2.1;rw[AD jZ];by_cases k14:n.kind=14;rw[Ay k14];simp only[rS,acQ,akZ];refine fA ?_ ?_;rw[apP k14];intro h;exact h.2.1;rw[AD k14];by_cases kA:n.kind=15;rw[Ay kA];have e:=apQ kA;refine H9 (λhl=>H9 (λhb=>hone (e.trans And.comm) hb (by omega)) λa=>(e.1 a.1).2) λa=>?_;have:=(e.1 a.1).1;omega;rw[AD kA];by_cases kB:n.kind=16;rw[Ay kB];have e:=apR kB;refine H9 (λhb=>?_) λa=>(e.1 a.1).1;obtain⟨q,rfl⟩:∃k,q=k+1:=⟨q - 1,by omega⟩;rw[AF];refine Nf (ajM (g:=An q) (b:=AF q) (n':=Aw q) (l:=Aq q) (λk hk=>hE k hk q (by omega) (by omega)) (λk hk c d a1 a2 a3 a4=>?_) (by omega) hc1 h2 hd1) ?_ λ_=>rfl;obtain⟨q,rfl⟩:∃k,q=k+1:=⟨q - 1,by have:=MY hk;have:=Cu k;omega⟩;rw[Aw];exact nG (hE k hk q (by omega) (by omega)) a1 a2 a3 a4;rw[e];exact⟨λa=>⟨⟨hb,a.1⟩,a.2⟩,λa=>⟨a.1.2,a.2⟩⟩;rw[AD kB];by_cases k17:n.kind=17;rw[Ay k17];have e:=apS k17
 have Gu:(n.name=KA\/n.name=FX)->Out (FW (EZ n ⟨0,n.name,V4,0,0,0,0,⟨0,[]⟩,[],0⟩) (FW (2<=((n.kids.length:Nat):Int)) ((Aq q ⟨c+1⟩ n.kids (d+1)).bind λ(a,b)=>some (a,b)) (some (false,c+1))) (some (false,c+1))) (U3 n/\Qs n.kids (c+1) (d+1)) (c+1+D7 n.kids):=by
   intro hn;refine H9 (λhb=>H9 (λhl=>?_) λa=>?_) λa=>(e.1 a.1).2.1;obtain⟨q,rfl⟩:∃k,q=k+1:=⟨q - 1,by have:=Ja n.kids;omega⟩;rw[Aq,DZ,B0 bI,bjJ];dsimp only;refine Nf (TC (g:=An q) (p:=OQ) (d:=d+1) (by omega) hc1 λk hk c' b0 b1=>hE k hk q (by omega) (by omega) c' (d+1) b0 b1 (by omega) (by omega)) ?_ λ_=>rfl;rw[e];exact⟨λa=>⟨⟨hn,hb,by omega⟩,a⟩,λa=>a.2⟩;have:=(e.1 a.1).2.2;omega
 by_cases hn1:n.name=KA;rw[Ay hn1];exact Gu (.inl hn1);rw[AD hn1];exact H9 (λhn2=>Gu (.inr hn2)) λa=>(e.1 a.1).1.resolve_left hn1;rw[AD k17];by_cases kC:n.kind=18;rw[Ay kC];have e:=apT kC;refine H9 (λhb=>H9 (λht=>H9 (λhl=>hone (B:=EZ n ⟨0,V4,V4,0,0,0,0,n.BK,[],0⟩/\Zd n.BK) (e.trans (by rw[and_assoc])) ⟨hb,ht⟩ (by omega)) λa=>?_) λa=>(e.1 a.1).2.1) λa=>(e.1 a.1).1;have:=(e.1 a.1).2.2;omega;rw[AD kC];exact KB λa=>by have:=Xp a.1;omega
def Le{β:Type}(a b:Option β):Prop:=∀y,a=some y->b=some y
section
variable {α β γ δ ρ:Type}
def Le.refl(a:Option β):Le a a:=λ_ h=>h
def EP{a a':Option α}{f g:α->Option β}(h:Le a a')(k:∀x,Le (f x) (g x)):Le (a.bind f) (a'.bind g):=by
 intro y hy;cases a with
 | none=>cases hy
 | some x=>rw[h x rfl];exact k x y hy
def LU{b:Bool}{x x' y y':Option β}(h:Le x x')(k:Le y y'):Le (cond b x y) (cond b x' y'):=by cases b;exact k;exact h
def Q1{n:Nat}{x x':Option β}(h:Le x x'):Le (Cs n x) (Cs n x'):=by
 unfold Cs;split;exact h;exact Le.refl _
def rC{body aHV:Nat->α->γ->Option (Lp γ δ ρ)}{done:γ->δ}(h:∀i y x,Le (body i y x) (aHV i y x)):∀(l:List α) (i:Nat) (x:γ),Le (Bs body done l i x) (Bs aHV done l i x)
 | [],_,_=>Le.refl _
 | a::l,i,x=>by
   rw[Bs,Bs];refine EP (h i a x) λz=>?_;cases z with
   | nx x'=>exact rC h l (i+1) x'
   | ex d=>exact Le.refl _
   | rt v=>exact Le.refl _
end
def bG:∀q:Nat,(∀c n d,Le (An q c n d) (An (q+1) c n d))/\(∀c n d,Le (AF q c n d) (AF (q+1) c n d))/\(∀c n d,Le (Aw q c n d) (Aw (q+1) c n d))/\(∀c n d,Le (Aq q c n d) (Aq (q+1) c n d))
 | 0=>⟨(λ_ _ _ _ h=>nomatch h),(λ_ _ _ _ h=>nomatch h),(λ_ _ _ _ h=>nomatch h),(λ_ _ _ _ h=>nomatch h)⟩
 | q+1=>by
   obtain⟨i1,i2,i3,i4⟩:=bG q;refine⟨λc n d=>?_,λc n d=>?_,λc n d=>?_,λc n d=>?_⟩
   · rw[An,An,Fe,Fe]
     repeat' first
       | exact Le.refl _
       | exact i1 _ _ _
       | exact i2 _ _ _
       | exact i4 _ _ _
       | refine LU ?_ ?_
       | refine EP ?_ λ⟨_,_⟩=>?_
       | refine EP ?_ λ_=>?_
   · rw[AF,AF,Dq,Dq]
     repeat' first
       | exact Le.refl _
       | exact i1 _ _ _
       | exact i3 _ _ _
       | refine LU ?_ ?_
       | refine EP ?_ λ⟨_,_⟩=>?_
       | refine EP ?_ λ_=>?_
   rw[Aw,Aw,Dr,Dr];exact EP (i1 _ _ _) λ_=>Le.refl _;rw[Aq,Aq,DZ,DZ];refine EP (Q1 (rC (λi y x=>?_) _ _ _)) λ_=>Le.refl _;rw[GJ,GJ];exact EP (i1 _ _ _) λ_=>Le.refl _
def pW{β:Type}{f:Nat->Option β}(h:∀q,Le (f q) (f (q+1))){q:Nat}{y:β}(hy:f q=some y):evt f=some y:=by
 refine TN q λm hm=>?_
 induction m with
 | zero=>obtain rfl:q=0:=by omega
         exact hy
 | succ m ih =>
   rcases Nat.lt_or_ge m q with hlt | hge
   obtain rfl:q=m+1:=by omega
   exact hy;exact h m y (ih hge)
def abB{n:Nd}(MG:GZ n):ExS Ff n:=by
 intro c d h0 h1 h2 h3;obtain⟨z,hz,hz2⟩:=apW (3*Cr n) n MG (aOC _) c d h0 h1 h2 h3;exact⟨z,pW (λq=>(bG q).1 _ _ _) hz,hz2⟩
def auA{n:Nd}(MG:GZ n){c d:Int}(h0:0<=c)(h1:c<=2000)(h2:0<=d)(h3:d<=41):Out (FY ⟨c⟩ n d) ((OQ n/\Qb n)/\c+Cr n<=2000/\d+Mq n<=41) (c+Cr n):=by
 obtain⟨z,hz,hz2⟩:=nG (g:=An (3*Cr n)) (b:=AF (3*Cr n)) (a:=Aw (3*Cr n)) (l:=Aq (3*Cr n)) (apW (3*Cr n) n MG (aOC _)) h0 h1 h2 h3;exact⟨z,pW (q:=3*Cr n+1) (λq=>(bG q).2.2.1 _ _ _) (by rw[Aw];exact hz),hz2⟩
abbrev z0:Nd:=⟨0,V4,V4,0,0,0,0,⟨0,[]⟩,[],0⟩
def aRZ(n:Int):Gv n=some (mb (uX n)):=by
 rw[Gv];simp only[G6,C4,LW,IM];rfl
def M7(n:Nd):Prop:=n.kind=5/\(0<=n.n/\n.n<=1000000)/\n.kids.length=0/\uX n.fr/\(n.fr < n.to/\n.to<=36525)/\uX n.known/\EZ n ⟨0,V4,V4,n.n,n.fr,n.to,n.known,⟨0,[]⟩,[],0⟩
def BO(n:Nd):Prop:=EZ n z0/\(n.kind=7->0 < n.kids.length/\∀k∈n.kids,OQ k/\Qb k)/\(n.kind≠7->n.kids.length=1/\∀k∈n.kids,OQ k)
def afW{n:Nd}(h:n.kids.length=0):Cr n=1/\Mq n=1:=by
 have:=biP h;rw[Cu,Ky,this];exact⟨rfl,rfl⟩
def aOK{n:Nd}(MG:GZ n){c d:Int}(h0:0<=c)(h1:c<=2000):Out (GV ⟨c⟩ n d) (M7 n/\c+Cr n<=2000/\d+Mq n<=41) (c+Cr n):=by
 obtain⟨jX,bI,Tj⟩:=Pg MG;have hsz:=Cu n;have hdp:=Ky n;rw[GV];refine Ng (fZ n h0 h1) (λhp=>?_) λz hp=>KB λa=>hp ⟨by omega,by omega⟩;dsimp only;rw[cond_true];simp only[BY,G6,IZ,C4,aRZ,dD _ _ jX,NF,rS,acQ]
 have key:(n.kind=5/\¬n.n < 0/\¬1000000 < n.n/\¬(0:Int) < ((n.kids.length:Nat):Int)/\uX n.fr/\¬n.to<=n.fr/\¬36525 < n.to/\uX n.known/\EZ n ⟨0,V4,V4,n.n,n.fr,n.to,n.known,⟨0,[]⟩,[],0⟩)↔M7 n:=by
   unfold M7;constructor;rintro⟨a,b,c',e,f,g,h,i,j⟩;exact⟨a,⟨by omega,by omega⟩,by omega,f,⟨by omega,by omega⟩,i,j⟩;rintro⟨a,b,c',f,g,i,j⟩;exact⟨a,by omega,by omega,by omega,f,by omega,by omega,i,j⟩
 refine(XJ key).congr ⟨λa=>⟨a,?_⟩,λa=>a.1⟩ λa=>?_;have:=afW a.2.2.1;omega;have:=afW a.1.2.2.1;omega
def aoI{n:Nd}(MG:GZ n){c d:Int}(h0:0<=c)(h1:c<=2000)(h2:0<=d):Out (ED ⟨c⟩ n d) (BO n/\c+Cr n<=2000/\d+Mq n<=41) (c+Cr n):=by
 obtain⟨jX,bI,Tj⟩:=Pg MG;have hsz:=Cu n;have hdp:=Ky n;have hd:=@Yu n.kids;rw[ED];refine Ng (fZ n h0 h1) (λhp=>?_) λz hp=>KB λa=>hp ⟨by omega,by omega⟩;dsimp only;rw[cond_true,Ca (a:=d) (b:=1) (by omega)];simp only[BY,IZ,C4,dD _ _ jX,NF];have hc1:=hp.1;have hd1:=hp.2
 have UI:(∀k∈n.kids,d+1+Mq k<=41)↔d+Mq n<=41:=by
   constructor;intro h;have:=(hd (m:=(40 - d).toNat)).2 λk hk=>by have:=h k hk;omega
   omega;intro h k hk;have:=(hd (m:=Yh n.kids)).1 (aOC _) k hk;omega
 refine H9 (λhb=>?_) λa=>a.1.1;by_cases k7:n.kind=7;rw[Ay k7];refine H9 (λhl=>?_) λa=>by have:=(a.1.2.1 k7).1;omega
 rw[Gg,B0 bI,bjJ];dsimp only;refine Nf (TC (g:=FY) (p:=λk=>OQ k/\Qb k) (d:=d+1) (by omega) hc1 λk hk c' b0 b1=>auA (Tj k hk) b0 b1 (by omega) (by omega)) ⟨λa=>⟨⟨hb,λ_=>⟨by omega,λk hk=>(a.1 k hk).1⟩,λh=>absurd k7 h⟩,by omega,UI.1 λk hk=>(a.1 k hk).2⟩,λa=>⟨λk hk=>⟨(a.1.2.1 k7).2 k hk,UI.2 a.2.2 k hk⟩,by omega⟩⟩ λ_=>by omega
 · rw[AD k7]
   refine H9 (λhl=>?_) λa=>by have:=(a.1.2.2 k7).1;omega
   have hl1:n.kids.length=1:=by omega
   unfold BO;generalize n.kids=ks at *
   match ks,hl1 with
   | [x],_ =>
   simp only[bjV,NF];have e1:D7 [x]=Cr x:=by simp[D7]
   refine Nf (abB (Tj x (by simp)) (c+1) (d+1) (by omega) hc1 (by omega) (by omega)) ⟨λa=>⟨⟨hb,λh=>absurd h k7,λ_=>⟨rfl,λk hk=>by rw[bjB.1 hk];exact a.1⟩⟩,by omega,UI.1 λk hk=>by rw[bjB.1 hk];exact a.2.2⟩,λa=>⟨(a.1.2.2 k7).2 x (by simp),by omega,UI.2 a.2.2 x (by simp)⟩⟩ λ_=>by omega
def Dj(k:Int):List Nd->Nat
 | []=>0
 | a::l=>(if a.kind=k then 1 else 0)+Dj k l
def azL(k:Int)(l:List Nd):Dj k l<=l.length:=by
 induction l with
 | nil=>simp[Dj]
 | cons a l ih=>simp only[Dj,Yy];split<;>omega
def kinds(l:List Nd):Prop:=∀k∈l,6<=k.kind/\k.kind<=8
def fJ{y:Int}:∀{l:List Nd} {i:Nat} {a b c:Int},0<=a->0<=b->0<=c->a+l.length<=9223372036854775807->b+l.length<=9223372036854775807->c+l.length<=9223372036854775807 ->
   Bs (λi z x=>EQ y i z x.1 x.2.1 x.2.2) (λx=>(x.1,x.2.1,x.2.2)) l i (a,b,c)=some (FW (kinds l) (.inl (a+Dj 6 l,b+Dj 7 l,c+Dj 8 l)) (.inr (false,y)))
 | [],i,a,b,c,_,_,_,_,_,_=>by rw[Ay (show kinds [] from λk hk=>(by cases hk))];simp[Bs,Dj]
 | z::l,i,a,b,c,h1,h2,h3,h4,h5,h6=>by
   simp only[Yy] at h4 h5 h6;rw[Bs,EQ];simp only[IZ,BY,C4];have hk:kinds (z::l)↔(6<=z.kind/\z.kind<=8)/\kinds l:=by unfold kinds;simp
   have go:∀{a' b' c':Int},0<=a'->0<=b'->0<=c'->a'<=a+1->b'<=b+1->c'<=c+1->6<=z.kind/\z.kind<=8->a'+Dj 6 l=a+Dj 6 (z::l)->b'+Dj 7 l=b+Dj 7 (z::l)->c'+Dj 8 l=c+Dj 8 (z::l) ->
       (some (Lp.nx (a',b',c'))).bind (NX (Bs (λi z x=>EQ y i z x.1 x.2.1 x.2.2) (λx=>(x.1,x.2.1,x.2.2)) l (i+1)))=some (FW (kinds (z::l)) (.inl (a+Dj 6 (z::l),b+Dj 7 (z::l),c+Dj 8 (z::l))) (.inr (false,y))):=by
     intro a' b' c' g1 g2 g3 g4 g5 g6 gk e1 e2 e3;show Bs _ _ l (i+1) (a',b',c')=_;rw[fJ g1 g2 g3 (by omega) (by omega) (by omega),e1,e2,e3];by_cases hl:kinds l;rw[Ay hl,Ay (hk.2 ⟨gk,hl⟩)];rw[AD hl,AD λq=>hl (hk.1 q).2]
   by_cases k6:z.kind < 6;rw[Ay k6,AD λq=>by have:=(hk.1 q).1;omega];rfl;rw[AD k6];by_cases k8:8 < z.kind;rw[Ay k8,AD λq=>by have:=(hk.1 q).1;omega];rfl;rw[AD k8];by_cases e6:z.kind=6;rw[Ay e6,Ca (by omega)];exact go (by omega) h2 h3 (by omega) (by omega) (by omega) (by omega) (by simp[Dj,e6];omega) (by simp[Dj,e6]) (by simp[Dj,e6]);rw[AD e6];by_cases e7:z.kind=7;rw[Ay e7,Ca (by omega)];exact go h1 (by omega) h3 (by omega) (by omega) (by omega) (by omega) (by simp[Dj,e7]) (by simp[Dj,e7];omega) (by simp[Dj,e7]);rw[AD e7];have e8:z.kind=8:=by omega
   rw[Ay e8,Ca (by omega)];exact go h1 h2 (by omega) (by omega) (by omega) (by omega) (by omega) (by simp[Dj,e8]) (by simp[Dj,e8]) (by simp[Dj,e8];omega)
def aaI(n:Nd):Prop:=Iw n.n/\JW n.name/\EZ n ⟨0,n.name,V4,n.n,0,0,0,⟨0,[]⟩,[],0⟩/\∃h cs,n.kids=h::cs/\kinds cs/\Dj 8 cs=1/\Dj 7 cs<=1/\M7 h/\∀k∈cs,BO k
def GD(n:Nd):Prop :=
 (n.kind=2/\JW n.name/\Kw n.unit/\n.kids.length=0/\EZ n ⟨0,n.name,n.unit,0,0,0,0,⟨0,[]⟩,[],0⟩) \/
 (n.kind=3/\JW n.name/\Kw n.unit/\1<=n.n/\n.n<=4/\n.kids.length=0/\EZ n ⟨0,n.name,n.unit,n.n,0,0,0,⟨0,[]⟩,[],0⟩) \/
 (n.kind=4/\aaI n)
def it2{n:Nd}(h:n.kind=2):GD n↔JW n.name/\Kw n.unit/\n.kids.length=0/\EZ n ⟨0,n.name,n.unit,0,0,0,0,⟨0,[]⟩,[],0⟩:=by unfold GD;simp[h]
def it3{n:Nd}(h:n.kind=3):GD n↔JW n.name/\Kw n.unit/\1<=n.n/\n.n<=4/\n.kids.length=0/\EZ n ⟨0,n.name,n.unit,n.n,0,0,0,⟨0,[]⟩,[],0⟩:=by unfold GD;simp[h]
def it4{n:Nd}(h:n.kind=4):GD n↔aaI n:=by unfold GD;simp[h]
def bM{n:Nd}(h:GD n):n.kind=2\/n.kind=3\/n.kind=4:=by
 unfold GD at h;rcases h with h | h | h
 all_goals
   have:=h.1;simp[this]
def aQO{n:Nd}(MG:GZ n){c d:Int}(h0:0<=c)(h1:c<=2000)(h2:0<=d):Out (Fh ⟨c⟩ n d) (GD n/\c+Cr n<=2000/\d+Mq n<=41) (c+Cr n):=by
 obtain⟨jX,bI,Tj⟩:=Pg MG;have hsz:=Cu n;have hdp:=Ky n;have hd:=@Yu n.kids;rw[Fh];refine Ng (fZ n h0 h1) (λhp=>?_) λz hp=>KB λa=>hp ⟨by omega,by omega⟩;dsimp only;rw[cond_true,Ca (a:=d) (b:=1) (by omega)];have e0:(((n.kids.length:Nat):Int)=0)=(n.kids.length=0):=propext (by omega);simp only[BY,G6,IZ,C4,rT,qF,XT,dD _ _ jX,NF,e0];have hc1:=hp.1;have hd1:=hp.2;have fA:∀{B:Prop},(B↔GD n)->(B->n.kids.length=0)->Out (some (mb B,c+1)) (GD n/\c+Cr n<=2000/\d+Mq n<=41) (c+Cr n):=λhB hk=>(XJ hB).congr ⟨λa=>⟨a,by have:=afW (hk (hB.2 a));omega⟩,λa=>a.1⟩ λa=>by have:=afW (hk (hB.2 a.1));omega
 by_cases k2:n.kind=2;rw[Ay k2];simp only[rS,acQ,akZ];refine fA ?_ ?_;rw[it2 k2];intro h;exact h.2.2.1;rw[AD k2];by_cases k3:n.kind=3;rw[Ay k3];simp only[rS,acQ,akZ];refine fA ?_ ?_;rw[it3 k3];intro h;exact h.2.2.2.2.1;rw[AD k3];by_cases k4:n.kind=4;rotate_left;rw[AD k4];exact KB λa=>by have:=bM a.1;omega
 rw[Ay k4,it4 k4];refine H9 (λhr=>H9 (λhn=>H9 (λhb=>?_) λa=>a.1.2.2.1) λa=>a.1.2.1) λa=>a.1.1;refine xB (λhl0=>?_) λa h=>by obtain⟨h',cs,hk,_⟩:=a.1.2.2.2;rw[hk] at h;simp at h
 have UI:(∀k∈n.kids,d+1+Mq k<=41)↔d+Mq n<=41:=by
   constructor;intro h;have:=(hd (m:=(40 - d).toNat)).2 λk hk=>by have:=h k hk;omega
   omega;intro h k hk;have:=(hd (m:=Yh n.kids)).1 (aOC _) k hk;omega
 unfold aaI;generalize n.kids=ks at *
 match ks,hl0 with
 | x::l,_ =>
 have Lc:Vm (x::l) 1 (((x::l).length:Nat):Int)=some l:=by
   unfold Vm;rw[if_pos (by simp only[Yy];omega)];simp
 rw[Lc];simp only[NF,Yy] at bI ⊢
 have e2:∀{A:Prop},(∃h cs,x::l=h::cs/\kinds cs/\Dj 8 cs=1/\Dj 7 cs<=1/\M7 h/\∀k∈cs,BO k)↔(kinds l/\Dj 8 l=1/\Dj 7 l<=1/\M7 x/\∀k∈l,BO k):=by
   intro _;constructor;rintro⟨h,cs,e,r⟩;cases e;exact r;intro r;exact⟨x,l,rfl,r⟩
 rw[B0 (by omega),bjJ,fJ (by omega) (by omega) (by omega) (by omega) (by omega) (by omega)];simp only[NF];by_cases hK:kinds l;rotate_left;rw[AD hK];show Out (some (false,c+1)) _ _;exact KB λa=>hK ((e2 (A:=True)).1 a.1.2.2.2).1;rw[Ay hK];show Out (FW ((0:Int)+Dj 8 l=1) (FW (1 < (0:Int)+Dj 7 l) (some (false,c+1)) _) (some (false,c+1))) _ _;refine H9 (λh8=>xB (λh7=>?_) λa=>?_) λa=>?_;rotate_left;have:=((e2 (A:=True)).1 a.1.2.2.2).2.2.1;omega;have:=((e2 (A:=True)).1 a.1.2.2.2).2.1;omega;simp only[bjV,NF];have hdx:=λh=>UI.2 h x (by simp);have hsl:D7 (x::l)=Cr x+D7 l:=by simp[D7]
 refine Ng (aOK (Tj x (by simp)) (c:=c+1) (d:=d+1) (by omega) hc1) (λhx=>?_) λz hx=>KB λa=>hx ⟨((e2 (A:=True)).1 a.1.2.2.2).2.2.2.1,by omega,hdx a.2.2⟩;dsimp only;rw[cond_true,Gf,B0 (by omega),bjJ];dsimp only;refine Nf (TC (g:=ED) (p:=BO) (d:=d+1) (by omega) hx.2.1 λk hk c' b0 b1=>aoI (Tj k (by simp[hk])) b0 b1 (by omega)) ?_ λ_=>by omega
 constructor;rintro⟨a,b⟩;refine⟨⟨hr,hn,hb,(e2 (A:=True)).2 ⟨hK,by omega,by omega,hx.1,λk hk=>(a k hk).1⟩⟩,by omega,UI.1 λk hk=>?_⟩;rcases biX.1 hk with rfl | hk
 exact hx.2.2;exact(a k hk).2;rintro⟨a,b,e⟩;exact⟨λk hk=>⟨((e2 (A:=True)).1 a.2.2.2).2.2.2.2 k hk,UI.2 e k (by simp[hk])⟩,by omega⟩
def okV(n:Nd):Prop:=((n.kind=1/\EZ n z0/\∀k∈n.kids,GD k)\/(n.kind≠1/\OQ n))/\Cr n<=2000/\Mq n<=40
def sT{n:Nd}(MG:GZ n):Eb n=some (mb (okV n)):=by
 obtain⟨jX,bI,Tj⟩:=Pg MG;have hsz:=Cu n;have hdp:=Ky n;have hd:=@Yu n.kids;rw[Eb,BY,C4]
 have fin:∀{r:Option (Bool×Int)} {P:Prop} {t:Int},Out r P t->(P↔okV n)->(r.bind λ(a,_)=>some a)=some (mb (okV n)):=by
   rintro r P t ⟨z,rfl,_⟩ h;rw[LY h];rfl
 by_cases k1:n.kind=1;rotate_left;rw[AD k1];refine fin (abB MG 0 1 (by omega) (by omega) (by omega) (by omega)) ?_;unfold okV;constructor;rintro⟨a,b,c⟩;exact⟨.inr ⟨k1,a⟩,by omega,by omega⟩;rintro⟨a | a,b,c⟩;exact absurd a.1 k1;exact⟨a.2,by omega,by omega⟩;rw[Ay k1];obtain⟨z,hz,hz2⟩:=fZ n (c:=0) (d:=1) (by omega) (by omega);rw[hz];simp only[NF,dD _ _ jX,C4];by_cases h1:(0:Int)+1<=2000/\(1:Int)<=40;rotate_left;exact absurd ⟨by omega,by omega⟩ h1;rw[Ay h1,hz2 h1];by_cases hb:EZ n z0;rotate_left;rw[AD hb];refine NT ?_;rintro⟨a | a,_⟩;exact hb a.2.1;exact a.1 k1;rw[Ay hb,G7,B0 bI,bjJ];dsimp only;refine fin (TC (g:=Fh) (p:=GD) (d:=2) (by omega) (by omega) λk hk c' b0 b1=>aQO (Tj k hk) b0 b1 (by omega)) ?_;unfold okV;constructor;rintro⟨a,b⟩;refine⟨.inl ⟨k1,hb,λk hk=>(a k hk).1⟩,by omega,?_⟩;have:=(hd (m:=39)).2 λk hk=>by have:=(a k hk).2;omega
 omega;rintro⟨a | a,b,e⟩;refine⟨λk hk=>⟨a.2.2 k hk,?_⟩,by omega⟩;have:=(hd (m:=Yh n.kids)).1 (aOC _) k hk;omega;exact absurd k1 a.1
abbrev Rd(α:Type):=List Tk->Option ((α⊕Dg)×List Tk)
section
variable {α β:Type}
def Gb(a:α):Rd α:=λl=>some (.inl a,l)
def Oz(e p:Int):Rd α:=λl=>some (.inr ⟨e,p⟩,l)
def BZ(m:Rd α)(k:α->Rd β):Rd β:=λl=>match m l with
 | none=>none
 | some (.inl a,s)=>k a s
 | some (.inr d,s)=>some (.inr d,s)
def IN(x:Option α)(k:α->Rd β):Rd β:=λl=>match x with
 | none=>none
 | some a=>k a l
def SA(en:Int)(k:Tk->Rd β):Rd β:=λl=>match l with
 | []=>some (.inr ⟨72,en⟩,[])
 | t::s=>k t (t::s)
def QC(k:Rd β):Rd β:=λl=>match l with
 | []=>none
 | _::s=>k s
def DS(x:ByteArray):List Tk->Bool
 | []=>false
 | t::_=>BD t.text.data.toList x.data.toList
def KR(x:ByteArray)(yes no:Rd β):Rd β:=λl=>cond (DS x l) (QC yes l) (no l)
end
def Ly(en:Int)(fits:Tk->Option Bool):Rd Tk:=SA en λt=>IN (fits t) λb=>cond b (QC (Gb t)) (Oz 71 t.Bc)
def II(en:Int)(x:ByteArray):Rd Tk:=Ly en λt=>CM t x
def fY(en:Int):Rd Tk:=Ly en BA
def oG(en:Int):Rd Tk:=Ly en Ha
def iB(en:Int):Rd Tk:=Ly en CF
def Oq(en:Int):Rd (Int×Int):=BZ (Ly en FC) λt=>IN (OY t.text) λn=>Gb (n.1,t.Bc)
def L7(en least:Int):Rd (Int×Int):=BZ (Oq en) λp=>cond (Dd p.1 least) (Oz 3 p.2) (cond (Dd 1000000 p.1) (Oz 3 p.2) (Gb p))
def TK(en least:Int):Rd Int:=BZ (Ly en Gi) λt=>IN (Db t.text) λd=>cond (Bi d.2 0) (cond (Dd d.1 least) (Oz 21 t.Bc) (Gb d.1)) (Oz 21 t.Bc)
abbrev bE:ByteArray:=V4
def C6(kind:Int)(name unit:ByteArray)(n:Int)(kids:List Nd)(p:Int):Nd:=⟨kind,name,unit,n,0,0,0,⟨0,[]⟩,kids,p⟩
def Zw(en:Int):Rd Nd:=BZ (II en Ml) λt=>BZ (L7 en 0) λn=>BZ (II en NY) λ_=>BZ (TK en 0) λf =>
 KR toS (BZ (TK en (Bh f 1)) λu=>BZ (II en IY) λ_=>BZ (TK en 0) λk=>Gb ⟨5,bE,bE,n.1,f,u,k,⟨0,[]⟩,[],t.Bc⟩)
   (BZ (II en IY) λ_=>BZ (TK en 0) λk=>Gb ⟨5,bE,bE,n.1,f,36525,k,⟨0,[]⟩,[],t.Bc⟩)
def Rz(en:Int):Rd Nd:=SA en λt=>QC<|BZ (fY en) λm=>BZ (II en PG) λ_=>BZ (oG en) λu =>
 cond (BD t.text.data.toList JU.data.toList)
   (BZ (iB en) λr=>IN (E4 r.text) λn=>BZ (II en CV) λ_=>Gb (C6 3 m.text u.text n [] t.Bc))
   (BZ (II en CV) λ_=>Gb (C6 2 m.text u.text 0 [] t.Bc))
def DA(en:Int):Rd Nd:=BZ (L7 en 1) λp=>Gb (C6 11 bE Cp p.1 [] p.2)
def Mh{β:Type}(n:Nat)(m:Rd β):Rd β:=λs=>Qa n (m s)
def N6(read:Rd Nd):Nat->List Nd->Rd (List Nd)
 | 0,_=>λ_=>none
 | q+1,l=>KR G3 (BZ read λn=>Mh (l.length+1) (N6 read q (l++[n]))) (Gb l)
def Qu(read:Rd Nd):Rd (List Nd):=BZ read λn s=>N6 read (s.length+1) [n] s
def NV(en:Int):Rd (Int×Int):=BZ (Ly en EE) λt=>IN (BQ t) λc=>cond (Bi t.kind 3) (cond (Bi c 0) (Gb (c,t.Bc)) (Oz 3 t.Bc)) (Gb (c,t.Bc))
def iK(en:Int):Rd Int:=BZ (Ly en Gj) λt=>cond (BD t.text.data.toList Fj.data.toList) (Gb (-1)) (Gb 1)
def Z0:Nat->Int->Int->Int
 | 0,a,_=>a
 | n+1,a,b=>if b=0 then a else Z0 n b (a % b)
def qD(a b:Int):Option Int:=if 1<=a/\0<=b then some (Z0 (b.toNat+1) a b) else none
def QB(en Ap from_ a:Int):Rd (Pt×Int):=BZ (iK en) λs=>BZ (L7 en 0) λm=>BZ (II en BI) λ_=>BZ (L7 en 1) λd =>
 IN (qD Ap d.1) λg=>IN (Oj Ap g) λz=>cond (Dd 1000000 (CK z d.1)) (Oz 2 d.2) (Gb (⟨from_,a,CK m.1 s,d.1⟩,CK z d.1))
def Ox(en Ap from_:Int):Rd (Pt×Int):=BZ (II en PG) λ_=>KR Fj (BZ (NV en) λa=>QB en Ap from_ (CK a.1 (-1))) (BZ (NV en) λa=>QB en Ap from_ (CK a.1 1))
def Uf(en:Int)(before:List Pt)(Ap:Int):Rd (Pt×Int):=BZ (NV en) λv =>
 cond (Bi ((before.length:Nat):Int) 0) (cond (Bi v.1 0) (Ox en Ap v.1) (Oz 3 v.2))
   (IN (before[before.length - 1]?) λq=>cond (LS v.1 q.fr) (Oz 3 v.2) (cond (LS 64 ((before.length:Nat):Int)) (Oz 2 v.2) (Ox en Ap v.1)))
def K1(en:Int):Nat->List Pt->Int->Rd (List Pt×Int)
 | 0,_,_=>λ_=>none
 | q+1,l,c=>BZ (Uf en l c) λp=>Mh (l.length+1) (KR G3 (K1 en q (l++[p.1]) p.2) (Gb (l++[p.1],p.2)))
def Mb(c p:Int):List Pt->List Pc->Rd (List Pc)
 | [],acc=>Gb acc
 | x::xs,acc=>IN (Oj c x.den) λz=>cond (Dd 1000000 (CK x.num z)) (Oz 2 p) (cond (Dd (CK x.num z) (-1000000)) (Oz 2 p) (Mh (acc.length+1) (Mb c p xs (acc++[⟨x.fr,CK x.Bc c,CK x.num z⟩]))))
inductive Ek where
 | ex | lv (i:Nat) | at_ | wd (t:Tk) | ca | ta
def WG(en:Int)(g:Ek->Rd Nd):Rd Nd:=BZ (II en IE) λt=>BZ (II en Ec) λ_=>BZ (g .ex) λa=>BZ (II en CV) λ_=>BZ (λs=>K1 en (s.length+1) [] 1 s) λl=>BZ (II en CX) λe =>
 Mh l.1.length (BZ (Mb l.2 e.Bc l.1 []) λr=>Gb ⟨18,bE,bE,0,0,0,0,⟨l.2,r⟩,[a],t.Bc⟩)
def dI(en:Int)(g:Ek->Rd Nd)(li:Rd (List Nd)):Rd Nd:=SA en λt=>QC<|BZ (II en Ec) λ_=>BZ (g .ex) λa=>BZ (II en G3) λ_=>BZ li λl=>Mh (1+l.length)<|BZ (II en CX) λ_=>Gb (C6 17 t.text bE 0 (a::l) t.Bc)
def dP(t:Tk):Rd Nd:=QC (Gb (C6 14 t.text bE 0 [] t.Bc))
def VN(en:Int)(g:Ek->Rd Nd)(t:Tk):Rd Nd :=
 cond (BD t.text.data.toList Uu.data.toList) (QC (Gb (C6 11 bE E8 1 [] t.Bc))) <|
 cond (BD t.text.data.toList O3.data.toList) (QC (Gb (C6 11 bE E8 0 [] t.Bc))) <|
 cond (BD t.text.data.toList VV.data.toList) (QC (BZ (L7 en 1) λp=>Gb (C6 13 bE bE p.1 [] t.Bc))) <|
 cond (BD t.text.data.toList IG.data.toList) (dP t)<|cond (BD t.text.data.toList Yr.data.toList) (dP t)<|cond (BD t.text.data.toList Mv.data.toList) (dP t)<|cond (BD t.text.data.toList RY.data.toList) (dP t) <|
 cond (BD t.text.data.toList KA.data.toList) (g .ca)<|cond (BD t.text.data.toList FX.data.toList) (g .ca)<|cond (BD t.text.data.toList IE.data.toList) (g .ta) <|
 cond (BD t.text.data.toList Ec.data.toList) (QC (BZ (g .ex) λa=>BZ (II en CX) λ_=>Gb a)) (Oz 71 t.Bc)
def OZ(en:Int)(g:Ek->Rd Nd):Rd Nd:=SA en λt =>
 cond (Bi t.kind 3) (BZ (Oq en) λn=>KR fX (Gb (C6 11 bE Dz n.1 [] n.2)) (Gb (C6 11 bE Cp n.1 [] n.2)))
   (cond (Bi t.kind 2) (QC (BZ (Ly en Gh) λa=>IN (BQ a) λc=>Gb (C6 11 bE t.text c [] t.Bc)))
     (IN (BA t) λb=>cond b (QC (Gb (C6 12 t.text bE 0 [] t.Bc))) (g (.wd t))))
def opsOf:Nat->List ByteArray
 | 0=>[rR]
 | 1=>[QR]
 | 3=>[I4,J6,Mg,Jt,Qf,L5]
 | 4=>[Sx,Fj]
 | 5=>[Ve,BI,uK]
 | _=>[]
def tM{β:Type}(yes:ByteArray->Rd β)(no:Rd β):List ByteArray->Rd β
 | []=>no
 | x::xs=>KR x (yes x) (tM yes no xs)
def PJ(en:Int)(sub:Rd Nd)(op:ByteArray)(l:Nd):Rd Nd:=BZ (cond (BD op.data.toList BI.data.toList) (DA en) sub) λr=>IN (AY op l r) λb=>Gb b
def JN(en:Int)(ops:List ByteArray)(sub:Rd Nd):Nat->Nd->Rd Nd
 | 0,_=>λ_=>none
 | q+1,l=>tM (λop=>BZ (PJ en sub op l) λb=>JN en ops sub q b) (Gb l) ops
def LV(en:Int)(g:Ek->Rd Nd)(i:Nat):Rd Nd:=BZ (g (.lv (i+1))) λl s=>JN en (opsOf i) (g (.lv (i+1))) (s.length+1) l s
def Xi(en:Int)(g:Ek->Rd Nd):Rd Nd:=BZ (g (.lv 4)) λl=>tM (λop=>PJ en (g (.lv 4)) op l) (Gb l) (opsOf 3)
def YK(en:Int)(g:Ek->Rd Nd):Rd Nd:=λs=>cond (DS LB s) (BZ (II en LB) (λt=>BZ (g (.lv 2)) λk=>Gb (C6 15 bE bE 0 [k] t.Bc)) s) (g (.lv 3) s)
def S9(en:Int)(g:Ek->Rd Nd)(li:Rd (List Nd)):Ek->Rd Nd
 | .ex=>g (.lv 0)
 | .lv 2=>YK en g
 | .lv 3=>Xi en g
 | .lv 6=>g .at_
 | .lv i=>LV en g i
 | .at_=>OZ en g
 | .wd t=>VN en g t
 | .ca=>dI en g li
 | .ta=>WG en g
def gP(en:Int):Nat->(Ek->Rd Nd)×Rd (List Nd)
 | 0=>(λ_ _=>none,λ_=>none)
 | q+1=>(S9 en (gP en q).1 (gP en q).2,Qu ((gP en q).1 .ex))
def H7(en:Int)(ex:Rd Nd)(kind:Int):Rd Nd:=SA en λt=>QC <|
 cond (Bi kind 7) (BZ (Qu (DA en)) λl=>BZ (II en CV) λ_=>Gb (C6 kind bE bE 0 l t.Bc)) (BZ ex λe=>BZ (II en CV) λ_=>Gb (C6 kind bE bE 0 [e] t.Bc))
def J5(en:Int)(ex:Rd Nd)(mk:List Nd->Nd):Nat->List Nd->Bool->Bool->Rd Nd
 | 0,_,_,_=>λ_=>none
 | q+1,l,un,am=>SA en λt =>
   cond (BD t.text.data.toList Nx.data.toList) (BZ (H7 en ex 6) λc=>Mh (l.length+1) (J5 en ex mk q (l++[c]) un am)) <|
   cond (BD t.text.data.toList Ho.data.toList) (cond un (Oz 5 t.Bc) (BZ (H7 en ex 7) λc=>Mh (l.length+1) (J5 en ex mk q (l++[c]) true am))) <|
   cond (BD t.text.data.toList GU.data.toList) (cond am (Oz 5 t.Bc) (BZ (H7 en ex 8) λc=>Mh (l.length+1) (J5 en ex mk q (l++[c]) un true))) <|
   cond (BD t.text.data.toList Uh.data.toList) (cond am (QC (Gb (mk l))) (Oz 71 t.Bc)) (Oz 71 t.Bc)
def LI(en:Int)(ex:Rd Nd):Rd Nd:=BZ (II en Dx) λt=>BZ (L7 en 1) λn=>BZ (II en V3) λ_=>BZ (fY en) λm=>BZ (Zw en) λh=>BZ (II en aC) λ_=>λs =>
 J5 en ex (λl=>C6 4 m.text bE n.1 l t.Bc) (s.length+1) [h] false false s
def N2(en:Int)(ex:Rd Nd):Rd Nd:=SA en λt =>
 cond (BD t.text.data.toList M6.data.toList) (Rz en)<|cond (BD t.text.data.toList JU.data.toList) (Rz en)<|cond (BD t.text.data.toList Dx.data.toList) (LI en ex) (Oz 71 t.Bc)
theorem vO:∀(n:Nat) (a b:Int),1<=a->0<=b->b < n->∃m,DP (λx:Int×Int=>ES x.1 x.2) m (a,b)=some (.inl (Z0 n a b))/\1<=Z0 n a b/\Z0 n a b∣a/\Z0 n a b∣b:=by
 intro n
 induction n with
 | zero=>intro a b h1 h2 h3;omega
 | succ n ih =>
   intro a b h1 h2 h3;unfold Z0;by_cases hb:b=0;rw[if_pos hb];subst hb;refine⟨1,?_,h1,Int.dvd_refl a,Int.dvd_zero a⟩;show(ES a 0).bind _=_;rw[ES,Ie rfl];rfl;rw[if_neg hb];obtain⟨m,h4,h5,h6,h7⟩:=ih b (a % b) (by omega) (Int.emod_nonneg a hb) (by have:=Int.emod_lt_of_pos a (show 0 < b by omega);omega);refine⟨m+1,?_,h5,?_,h6⟩;show(ES a b).bind _=_;rw[ES,Kr hb]
   have:Xm a b=some (a % b):=by
     unfold Xm NA;rw[if_neg hb,Int.tmod_eq_emod_of_nonneg (by omega)]
   dsimp only[cond];rw[this];exact h4;have:=Int.dvd_add h7 (Int.dvd_mul_of_dvd_left h6:_∣b*(a / b));rwa[Int.emod_add_mul_ediv] at this
theorem aqF{a b g:Int}(h:qD a b=some g):CH a b=some g:=by
 unfold qD at h;split at h;rename_i hc;cases h;obtain⟨m,h1,_⟩:=vO (b.toNat+1) a b hc.1 hc.2 (by omega);unfold CH;rw[EI h1];rfl;cases h
theorem aNS{a b:Int}(ha:1<=a)(hb:0<=b):∃g,qD a b=some g/\1<=g/\g∣a/\g∣b:=by
 obtain⟨m,_,h1⟩:=vO (b.toNat+1) a b ha hb (by omega);exact⟨_,if_pos ⟨ha,hb⟩,h1⟩
section
variable {α β γ:Type} {ts:List Tk} {k:Nat} {en:Int} {r:α⊕Dg} {l:List Tk}
def JG(ts:List Tk)(k:Nat)(X:Option ((α⊕Dg)×Int))(r:α⊕Dg)(l:List Tk):Prop:=∃k':Nat,k<=k'/\k'<=ts.length/\l=ts.drop k'/\X=some (r,(k':Int))
theorem Eg(hk:k<=ts.length){q:α⊕Dg}{z:Int}(hz:z=(k:Int))(h:some (q,ts.drop k)=some (r,l)):JG ts k (some (q,z)) r l:=by
 simp only[aOE,biY] at h;exact⟨k,aOC k,hk,h.2.symm,by rw[h.1,hz]⟩
theorem L9{k2:Nat}{X:Option ((α⊕Dg)×Int)}(h1:k<=k2)(h:JG ts k2 X r l):JG ts k X r l:=by
 obtain⟨k',a,b,c,d⟩:=h;exact⟨k',Nat.le_trans h1 a,b,c,d⟩
theorem Bg{F1:Option ((γ⊕Dg)×Int)}{F2:(γ⊕Dg)×Int->Option ((α⊕Dg)×Int)}{m:Rd γ}{K:γ->Rd α}
   (h1:∀{r l},m (ts.drop k)=some (r,l)->JG ts k F1 r l)
   (h2:∀a k',k<=k'->k'<=ts.length->K a (ts.drop k')=some (r,l)->JG ts k' (F2 (.inl a,(k':Int))) r l)
   (h3:∀d z,F2 (.inr d,z)=some (.inr d,z)) (hS:BZ m K (ts.drop k)=some (r,l)):JG ts k (F1.bind F2) r l:=by
 unfold BZ at hS;split at hS;cases hS;rename_i a s hm;obtain⟨k',a1,a2,rfl,a4⟩:=h1 hm;rw[a4];exact L9 a1 (h2 _ _ a1 a2 hS);rename_i d s hm;obtain⟨k',a1,a2,rfl,a4⟩:=h1 hm;rw[a4,NF,h3];simp only[aOE,biY] at hS;exact⟨k',a1,a2,hS.2.symm,by rw[hS.1]⟩
theorem Lm{X:Option γ}{K:γ->Rd α}{s:List Tk}(h:IN X K s=some (r,l)):∃a,X=some a/\K a s=some (r,l):=by
 unfold IN at h;split at h;cases h;exact⟨_,rfl,h⟩
theorem JP(ts:List Tk)(hk:k<=ts.length):(k=ts.length/\ts.drop k=[])\/∃t,k+1<=ts.length/\ts[k]?=some t/\ts.drop k=t::ts.drop (k+1):=by
 by_cases h:k < ts.length;exact .inr ⟨ts[k],h,abI h,(List.drop_eq_getElem_cons h)⟩;exact .inl ⟨by omega,List.drop_eq_nil_of_le (by omega)⟩
theorem Y2{F2:Tk⊕Dg->Option ((α⊕Dg)×Int)}{K:Tk->Rd α}(hk:k<=ts.length)
   (h2:∀t,k+1<=ts.length->ts.drop k=t::ts.drop (k+1)->K t (ts.drop k)=some (r,l)->JG ts k (F2 (.inl t)) r l)
   (h3:∀d,F2 (.inr d)=some (.inr d,(k:Int))) (hS:SA en K (ts.drop k)=some (r,l)):JG ts k ((Am ⟨ts,k,en⟩).bind F2) r l:=by
 unfold SA at hS;rcases JP ts hk with ⟨h1,zX⟩ | ⟨t,h1,zX,h3'⟩
 rw[zX] at hS;dsimp only at hS
 have:Am ⟨ts,k,en⟩=some (.inr ⟨72,en⟩):=by
   unfold Am;rw[fQ (by dsimp only;omega)];rfl
 rw[this,NF,h3];simp only[aOE,biY] at hS;exact⟨k,aOC k,hk,by rw[zX,hS.2],by rw[hS.1]⟩;rw[h3'] at hS;dsimp only at hS
 have:Am ⟨ts,k,en⟩=some (.inl t):=by
   unfold Am;rw[XD (by dsimp only;omega)];dsimp only[cond];unfold F9;rw[if_pos (by omega),biW,zX];rfl
 rw[this,NF];exact h2 t h1 h3' (by rw[h3'];exact hS)
theorem GO(hk:k<=ts.length)(x:ByteArray):Ai ⟨ts,k,en⟩ x=some (DS x (ts.drop k)):=by
 unfold Ai;rcases JP ts hk with ⟨h1,zX⟩ | ⟨t,h1,zX,h3'⟩
 rw[zX,DQ (by dsimp only;omega)];rfl;rw[h3',G4 (by dsimp only;omega)];dsimp only[cond];unfold F9;rw[if_pos (by omega),biW,zX];rfl
theorem iJ{x:ByteArray}(hk:k<=ts.length)(h:DS x (ts.drop k)=true):∃t,k+1<=ts.length/\ts.drop k=t::ts.drop (k+1):=by
 rcases JP ts hk with ⟨h1,zX⟩ | ⟨t,h1,zX,h3'⟩
 rw[zX] at h;cases h;exact⟨t,h1,h3'⟩
theorem Ew(DT:ts.length<=1000000)(hk:k<=ts.length):Bh (k:Int) 1=((k+1:Nat):Int):=by
 rw[Ca (by omega)];rfl
theorem lF{K:Rd α}{t:Tk}(ht:ts.drop k=t::ts.drop (k+1))(h:QC K (ts.drop k)=some (r,l)):K (ts.drop (k+1))=some (r,l):=by
 rw[ht] at h;exact h
theorem ahH{F2:Bool->Option ((α⊕Dg)×Int)}{A B:Rd α}{x:ByteArray}(hk:k<=ts.length)
   (h1:k+1<=ts.length->A (ts.drop (k+1))=some (r,l)->JG ts (k+1) (F2 true) r l) (h2:B (ts.drop k)=some (r,l)->JG ts k (F2 false) r l)
   (hS:KR x A B (ts.drop k)=some (r,l)):JG ts k ((Ai ⟨ts,k,en⟩ x).bind F2) r l:=by
 unfold KR at hS;rw[GO hk,NF];cases hx:DS x (ts.drop k) with
 | true =>
   rw[hx] at hS;obtain⟨t,ht1,ht2⟩:=iJ hk hx;exact L9 (blV k) (h1 ht1 (lF ht2 hS))
 | false =>
   rw[hx] at hS;exact h2 hS
end
section
variable {ts:List Tk} (DT:ts.length<=1000000) {en:Int}
include DT
theorem SK(fits:Tk->Option Bool){k:Nat}(hk:k<=ts.length){r l}(hS:Ly en fits (ts.drop k)=some (r,l)) :
   JG ts k ((Am ⟨ts,k,en⟩).bind λy1=>aOB (λ(G5:Tk)=>(fits G5).bind λy2=>cond y2 (some ((Sum.inl G5:(Tk⊕Dg)),(Bh (k:Int) 1))) (some ((Sum.inr (⟨71,G5.Bc⟩:Dg):(Tk⊕Dg)),(k:Int)))) (λ(Ri:Dg)=>some ((Sum.inr Ri:(Tk⊕Dg)),(k:Int))) y1) r l:=by
 refine Y2 hk (λt h1 h2 hS=>?_) (λ_=>rfl) hS;obtain⟨b,hb,hS⟩:=Lm hS;dsimp only[aOB];rw[hb,NF];cases b with
 | true =>
   have:=lF h2 hS;rw[cond,Ew DT hk];exact L9 (blV k) (Eg h1 rfl this)
 | false=>exact Eg hk rfl hS
theorem Jg(x:ByteArray){k:Nat}(hk:k<=ts.length){r l}(hS:II en x (ts.drop k)=some (r,l)):JG ts k (Ac ⟨ts,k,en⟩ x) r l:=by
 obtain⟨k',a1,a2,a3,a4⟩:=SK DT (λt=>CM t x) hk hS;refine⟨k',a1,a2,a3,?_⟩;unfold Ac I3;rw[a4,NF];cases r<;>rfl
theorem atL{k:Nat}(hk:k<=ts.length){r l}(hS:fY en (ts.drop k)=some (r,l)):JG ts k (Dp ⟨ts,k,en⟩) r l:=SK DT BA hk hS
theorem aTP{k:Nat}(hk:k<=ts.length){r l}(hS:oG en (ts.drop k)=some (r,l)):JG ts k (Gk ⟨ts,k,en⟩) r l:=SK DT Ha hk hS
theorem aSP{k:Nat}(hk:k<=ts.length){r l}(hS:iB en (ts.drop k)=some (r,l)):JG ts k (Is ⟨ts,k,en⟩) r l:=SK DT CF hk hS
theorem wV{k:Nat}(hk:k<=ts.length){r l}(hS:Oq en (ts.drop k)=some (r,l)):JG ts k (ET ⟨ts,k,en⟩) r l:=by
 refine Bg (λh=>SK DT FC hk h) (λt k' h1 h2 hS=>?_) (λ_ _=>rfl) hS;obtain⟨n,hn,hS⟩:=Lm hS;dsimp only[aOB];rw[hn];exact Eg h2 rfl hS
theorem QD(least:Int){k:Nat}(hk:k<=ts.length){r l}(hS:L7 en least (ts.drop k)=some (r,l)):JG ts k (Au ⟨ts,k,en⟩ least) r l:=by
 refine Bg (λh=>wV DT hk h) (λt k' h1 h2 hS=>?_) (λ_ _=>rfl) hS;dsimp only[aOB];revert hS;cases Dd t.1 least;cases Dd 1000000 t.1<;>exact λhS=>Eg h2 rfl hS
 exact λhS=>Eg h2 rfl hS
theorem pN(least:Int){k:Nat}(hk:k<=ts.length){r l}(hS:TK en least (ts.drop k)=some (r,l)):JG ts k (DC ⟨ts,k,en⟩ least) r l:=by
 refine Bg (λh=>SK DT Gi hk h) (λt k' h1 h2 hS=>?_) (λ_ _=>rfl) hS;obtain⟨n,hn,hS⟩:=Lm hS;dsimp only[aOB];rw[hn,NF];revert hS;cases Bi n.2 0;exact λhS=>Eg h2 rfl hS;cases Dd n.1 least<;>exact λhS=>Eg h2 rfl hS
theorem aOI{k:Nat}(hk:k<=ts.length){r l}(hS:Zw en (ts.drop k)=some (r,l)):JG ts k (J1 ⟨ts,k,en⟩) r l:=by
 refine Bg (λh=>Jg DT _ hk h) (λt k h hk hS=>?_) (λ_ _=>rfl) hS;refine Bg (λh=>QD DT _ hk h) (λn k h hk hS=>?_) (λ_ _=>rfl) hS;refine Bg (λh=>Jg DT _ hk h) (λ_ k h hk hS=>?_) (λ_ _=>rfl) hS;refine Bg (λh=>pN DT _ hk h) (λf k h hk hS=>?_) (λ_ _=>rfl) hS;refine ahH hk (λhk1 hS=>?_) (λhS=>?_) hS;dsimp only[cond];rw[Ew DT hk];refine Bg (λh=>pN DT _ hk1 h) (λu k h hk hS=>?_) (λ_ _=>rfl) hS;refine Bg (λh=>Jg DT _ hk h) (λ_ k h hk hS=>?_) (λ_ _=>rfl) hS;refine Bg (λh=>pN DT _ hk h) (λf k h hk hS=>?_) (λ_ _=>rfl) hS;exact Eg hk rfl hS;refine Bg (λh=>Jg DT _ hk h) (λ_ k h hk hS=>?_) (λ_ _=>rfl) hS;refine Bg (λh=>pN DT _ hk h) (λf k h hk hS=>?_) (λ_ _=>rfl) hS;exact Eg hk rfl hS
theorem aoU{k:Nat}(hk:k<=ts.length){r l}(hS:Rz en (ts.drop k)=some (r,l)):JG ts k (Dm ⟨ts,k,en⟩) r l:=by
 refine Y2 hk (λt h1 h2 hS=>?_) (λ_=>rfl) hS;have hS:=lF h2 hS;dsimp only[aOB];rw[Ew DT hk];refine L9 (blV k) ?_;refine Bg (λh=>atL DT h1 h) (λm k h hk hS=>?_) (λ_ _=>rfl) hS;refine Bg (λh=>Jg DT _ hk h) (λ_ k h hk hS=>?_) (λ_ _=>rfl) hS;refine Bg (λh=>aTP DT hk h) (λu k h hk hS=>?_) (λ_ _=>rfl) hS;dsimp only[aOB];revert hS;cases BD t.text.data.toList JU.data.toList;intro hS;refine Bg (λh=>Jg DT _ hk h) (λ_ k h hk hS=>?_) (λ_ _=>rfl) hS;exact Eg hk rfl hS;intro hS;refine Bg (λh=>aSP DT hk h) (λq k h hk hS=>?_) (λ_ _=>rfl) hS;obtain⟨n,hn,hS⟩:=Lm hS;dsimp only[aOB];rw[hn,NF];refine Bg (λh=>Jg DT _ hk h) (λ_ k h hk hS=>?_) (λ_ _=>rfl) hS;exact Eg hk rfl hS
theorem XI{k:Nat}(hk:k<=ts.length){r l}(hS:DA en (ts.drop k)=some (r,l)):JG ts k (Ax ⟨ts,k,en⟩) r l:=by
 refine Bg (λh=>QD DT _ hk h) (λn k h hk hS=>?_) (λ_ _=>rfl) hS;exact Eg hk rfl hS
theorem sU{k:Nat}(hk:k<=ts.length){r l}(hS:NV en (ts.drop k)=some (r,l)):JG ts k (BE ⟨ts,k,en⟩) r l:=by
 refine Bg (λh=>SK DT EE hk h) (λt k' h1 h2 hS=>?_) (λ_ _=>rfl) hS;obtain⟨n,hn,hS⟩:=Lm hS;dsimp only[aOB];rw[hn,NF];revert hS;cases Bi t.kind 3;exact λhS=>Eg h2 rfl hS;cases Bi n 0<;>exact λhS=>Eg h2 rfl hS
theorem awA{k:Nat}(hk:k<=ts.length){r l}(hS:iK en (ts.drop k)=some (r,l)):JG ts k (B5 ⟨ts,k,en⟩) r l:=by
 refine Bg (λh=>SK DT Gj hk h) (λt k' h1 h2 hS=>?_) (λ_ _=>rfl) hS;dsimp only[aOB];revert hS;cases BD t.text.data.toList Fj.data.toList<;>exact λhS=>Eg h2 rfl hS
end
end Mo
end Go.Proofs.YtpbkhogolfegfaaGreatDoor
