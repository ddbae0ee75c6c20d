/- Part of a proof: see the last text. -/
import Derived.Test.YtkcimienkafhmaaGreatDoorPp6
set_option linter.all false
noncomputable section
set_option maxRecDepth 100000
open Array renaming ext'->bbW
open ByteArray renaming empty->VE
open Int renaming eq_ofNat_of_zero_le->bcD,toNat_natCast->aUW
open List renaming all_eq_true->bcC,append_assoc->beJ,drop_zero->bbQ,eq_nil_of_length_eq_zero->bbD,flatMap_cons->bdP,getElem?_cons_succ->bdV,getElem?_cons_zero->bbH,getElem?_eq_getElem->atS,getElem?_eq_some_iff->aHS,getElem?_of_mem->beI,length_append->cZ,length_cons->amN,length_drop->aUZ,length_nil->amO,map_cons->bcH,mem_range->bcZ,nil_append->bcY,range->bcB,sum_cons->bgZ
open Nat renaming add_mul->bdL,ble->bfD,le_refl->aHT,mul_le_mul_right->bdE
open Option renaming bind_some->TC
open Option.some renaming inj->bbJ,injEq->aUQ
open Prod.mk renaming inj->bjF,injEq->bbI
namespace Go.Proofs.YtkcimienkafhmaaGreatDoor
open AI Go LexS
namespace Mo
set_option maxHeartbeats 4000000
abbrev T1(k:Nat)(w:List UInt8)(g:List UInt8):Ti:=((k,w,0),g)
def yN(n:Nd):List Ti :=
 if n.unit=CW then [T1 3 (dP n.n) []]
 else if n.unit=Dw then [T1 3 (dP n.n) [32],T1 1 (sM.data.toList) []]
 else if n.unit=Ey then [T1 1 ((if n.n=1 then SN else NB).data.toList) []]
 else [T1 2 (n.unit.data.toList) [32],T1 4 (aK n.n) []]
def Nu(l:List (List Ti)):List Ti:=l.flatMap λb=>T1 6 [44] [32]::b
def S1:List (List Ti)->List Ti
 |[]=>[]
 |a::l=>a++Nu l
def Vr(z:Int):Int:=if z < 0 then -z else z
def ZF(d:Int)(p:Pc):List Ti :=
 [T1 4 (aK p.fr) [32],T1 6 [58] [32]]++(if p.BH.tdiv d < 0 then [T1 6 [45] []] else [])++[T1 4 (aK (Vr (p.BH.tdiv d))) [32],T1 6 (if p.C7 < 0 then [45] else [43]) [32],T1 3 (dP (Vr p.C7)) [],T1 6 [47] [],T1 3 (dP d) []]
def aiA(f:Fn):List Ti:=S1 (f.ps.map (ZF f.den))
def Qw(s:ByteArray):Nat:=if s=kZ then 0 else if s=QY then 1 else if s=Ro\/s=Em then 4 else if s=Sf\/s=CK\/s=jQ then 5 else 3
def ND(n:Nd):Nat:=if n.kind=15 then 2 else if n.kind=16 then Qw n.name else 6
def loL(l:Nat):Nat:=if l=3 then 4 else l
def opT(least l:Nat)(t:List Ti):List Ti:=if l < least then T1 6 [40] []::(t++[T1 6 [41] []]) else t
def ajM:List Ti->List Ti
 |[]=>[]
 |[p]=>[(p.1,p.2++[32])]
 |p::q::r=>p::ajM (q::r)
def aR(n:Nd)(i:Nat):Nat:=match n.kids[i]? with|some k=>ND k|none=>6
def YY(n:Nd)(ks:List (List Ti)):List Ti :=
 if n.kind=11 then yN n
 else if n.kind=12\/n.kind=14 then [T1 1 (n.name.data.toList) []]
 else if n.kind=13 then [T1 1 (bU.data.toList) [32],T1 3 (dP n.n) []]
 else if n.kind=15 then T1 1 (UO.data.toList) [32]::opT 2 (aR n 0) (ks.getD 0 [])
 else if n.kind=16 then ajM (opT (loL (Qw n.name)) (aR n 0) (ks.getD 0 []))++T1 (opK n.name) (n.name.data.toList) [32]::opT (Qw n.name+1) (aR n 1) (ks.getD 1 [])
 else if n.kind=18 then [T1 1 (MD.data.toList) [],T1 6 [40] []]++ks.getD 0 []++[T1 6 [59] [32]]++aiA n.Cg++[T1 6 [41] []]
 else [T1 1 (n.name.data.toList) [],T1 6 [40] []]++S1 ks++[T1 6 [41] []]
mutual
def tP:Nd->List Ti
 |⟨k,a,b,c,d,e,f,t,ks,p⟩=>YY ⟨k,a,b,c,d,e,f,t,ks,p⟩ (tPs ks)
def tPs:List Nd->List (List Ti)
 |[]=>[]
 |n::l=>tP n::tPs l
end
def adX:∀l:List Nd,tPs l=l.map tP
 |[]=>by rw[tPs];rfl
 |n::l=>by rw[tPs,adX l];rfl
def asO(n:Nd):tP n=YY n (n.kids.map tP):=by cases n;rw[tP,adX]
def mG:∀{l:List Ti},l≠[]->Ao (ajM l)=Ao l++[32]
 |[],h=>absurd rfl h
 |[p],_=>by simp[ajM,Ao]
 |p::q::r,_=>by
  rw[ajM,Ao,mG (l:=q::r) (by simp)];simp[Ao]
def apR(least l:Nat)(t:List Ti):Ao (opT least l t)=if l < least then 40::(Ao t++[41]) else Ao t:=by unfold opT;split;simp[Ao,CP];rfl
def KK:CJ.data.toList=[32]/\K8.data.toList=32::sM.data.toList/\EX.data.toList=[44,32]/\A5.data.toList=[32,58,32]/\F8.data.toList=[32,45,32]/\F7.data.toList=[32,43,32]/\CK.data.toList=[47]/\Em.data.toList=[45]/\TX.data.toList=[59,32]/\EM.data.toList=MD.data.toList++[40] /\
 Pm.data.toList=UO.data.toList++[32]/\Pl.data.toList=[41]/\Mh.data.toList=[40]/\K9.data.toList=bU.data.toList++[32]:=⟨rfl,rfl,rfl,rfl,rfl,rfl,rfl,rfl,rfl,rfl,rfl,rfl,rfl,rfl⟩
def LL:(sM.data.toList).length=3/\(MD.data.toList).length=5/\(UO.data.toList).length=3/\(bU.data.toList).length=3/\(SN.data.toList).length=4/\(NB.data.toList).length=5:=⟨rfl,rfl,rfl,rfl,rfl,rfl⟩
def ES(l:List UInt8):(⟨l.toArray⟩:ByteArray).data.toList=l:=by simp
def BY(a b:ByteArray):(a++b).data.toList=a.data.toList++b.data.toList:=Dd a b
def GR{n:Int}(h:0<=n/\n<=999999999999):(dP n).length<=12:=(acB h).2.1
def PW{n:Int}(h:0<=n/\n<=999999999999):(aK n).length<=15:=by unfold aK;have:=Ul 9 (n.toNat / 100) (by omega);simp only[cZ,amN,amO];omega
def oU{n:Int}(h:-999999999999<=n/\n<=999999999999):(seL n).length<=16:=by unfold seL;split;have:=PW (n:=-n) (by omega);simp only[amN];omega;have:=PW (n:=n) (by omega);omega
def azE(z:Int):seL z=(if z < 0 then [45] else [])++aK (Vr z):=by unfold seL Vr;split<;>rfl
def Lb{p:Pb}{s:ByteArray}(h0:s.data.toList≠[])(h:p.text.length+(s.data.toList).length<=100000000):Ab p s=some ((((s.data.toList).length:Int),()),p.text++s.data.toList):=by have h1:s.data.toList.length≠0:=λe=>h0 (bbD e);unfold Ab To;rw[TC,Kx (by omega),cond_false,Ge h]
def gD{u:ByteArray}(hu:KP u)(u1:u≠CW)(u2:u≠Dw)(u3:u≠Ey):(u.data.toList).length=3:=by
 rcases hu with h | h | h | h
 exact absurd h u3;exact absurd h u1;exact absurd h u2;exact h.1
def axF{n:Nd}(hu:KP n.unit)(hn:0<=n.n/\n.n<=999999999999):1<=(Ao (yN n)).length/\(Ao (yN n)).length<=100:=by have hi:=GR hn;have hi1:=(acB hn).1;have hc:=PW hn;unfold yN;by_cases u1:n.unit=CW;rw[if_pos u1];simp only[Ao,cZ,amO];omega;rw[if_neg u1];by_cases u2:n.unit=Dw;rw[if_pos u2];simp only[Ao,cZ,amO,amN,LL];omega;rw[if_neg u2];by_cases u3:n.unit=Ey;rw[if_pos u3];by_cases h1:n.n=1;rw[if_pos h1];simp only[Ao,cZ,amO,LL];omega;rw[if_neg h1];simp only[Ao,cZ,amO,LL];omega;rw[if_neg u3];have:=gD hu u1 u2 u3;simp only[Ao,cZ,amO,amN];omega
def aKI{n:Nd}{p:Pb}(hu:KP n.unit)(hn:0<=n.n/\n.n<=999999999999)(hp:p.text.length<=90000000):Fs p n=some ((),p.text++Ao (yN n)):=by
 have hi:=GR hn;have hi1:dP n.n≠[]:=aJL n.n;have hc:=PW hn;have hc1:aK n.n≠[]:=by unfold aK;simp
 have hs:seL n.n=aK n.n:=if_neg (by omega);unfold Fs yN;rw[TG hn,VA (by omega),hs];simp only[FW,BT,B9,TC];by_cases u3:n.unit=Ey;rw[Aq u3,if_neg (by rw[u3];decide),if_neg (by rw[u3];decide),if_pos u3];by_cases h1:n.n=1;rw[Aq h1,if_pos h1,FE,GX,cond_true,TC,TC,Lb (by decide) (by rw[LL.2.2.2.2.1];omega)];simp[Ao];rw[Ar h1,if_neg h1,FE,GX,cond_false,TC,TC,Lb (by decide) (by rw[LL.2.2.2.2.2];omega)];simp[Ao];rw[Ar u3];by_cases u1:n.unit=CW;rw[Aq u1,if_pos u1,Lb (by rw[ES];exact hi1) (by rw[ES];omega),ES];simp[Ao];rw[Ar u1,if_neg u1];by_cases u2:n.unit=Dw;rw[Aq u2,if_pos u2,AZ (by simp only[ES,KK,amN,LL];omega),Lb (by rw[BY,ES];simp[hi1]) (by simp only[BY,ES,KK,cZ,amN,LL];omega)];simp only[BY,ES,KK,Ao];simp;rw[Ar u2,if_neg u2,if_neg u3];have hl:n.unit.data.toList.length=3:=gD hu u1 u2 u3;rw[AZ (by simp only[KK,amN,amO];omega),AZ (by simp only[BY,ES,KK,cZ,amN,amO];omega),Lb (by simp only[BY,ES];simp[hc1]) (by simp only[BY,ES,KK,cZ,amN,amO];omega)];simp only[BY,ES,KK,Ao];simp
def aGW{a d:Int}(hd:1<=d/\d<=1000000)(h:-(999999999999*d)<=a/\a<=999999999999*d):Oc a d=some (a.tdiv d)/\-999999999999<=a.tdiv d/\a.tdiv d<=999999999999:=by
 have hb:-999999999999<=a.tdiv d/\a.tdiv d<=999999999999:=by
  have h1:(a.tdiv d).natAbs=a.natAbs / d.natAbs:=Int.natAbs_tdiv a d
  have h2:a.natAbs / d.natAbs<=999999999999:=by
   have:a.natAbs<=999999999999*d.natAbs:=by omega
   have hd0:0 < d.natAbs:=by omega
   exact Nat.div_le_of_le_mul (by rw[Nat.mul_comm];exact this)
  omega
 refine⟨?_,hb⟩;unfold Oc L7;rw[if_neg (by omega)];congr 1;have h7:=L8 (n:=a.tdiv d) (by omega);rw[KR] at h7;exact h7
def acZ(d:Int)(p:Pc):Prop:=(0<=p.fr/\p.fr<=999999999999)/\(-(999999999999*d)<=p.BH/\p.BH<=999999999999*d)/\-1000000<=p.C7/\p.C7<=1000000
def vA{α:Type}{f:α->List Ti}{W:α->Nat}:∀l:List α,(∀a∈l,(Ao (f a)).length+2<=W a)->(Ao (Nu (l.map f))).length<=(l.map W).sum
 |[],_=>aHT _
 |a::l,h=>by
  have h1:=h a (by simp);have h2:=vA l λb hb=>h b (by simp[hb]);have:Nu ((a::l).map f)=T1 6 [44] [32]::(f a++Nu (l.map f)):=by unfold Nu;simp
  rw[this,Ao,CP,bcH,bgZ];simp only[cZ,amN,amO];omega
def Sr{α:Type}{f:α->List Ti}{W:α->Nat}(l:List α)(h:∀a∈l,(Ao (f a)).length+2<=W a):(Ao (S1 (l.map f))).length<=(l.map W).sum:=by
 have h1:=vA l h;cases l with
 |nil=>exact aHT _
 |cons a l=>
  have:Nu ((a::l).map f)=T1 6 [44] [32]::(f a++Nu (l.map f)):=by unfold Nu;simp
  rw[this,Ao,CP] at h1;rw[bcH,S1,CP];simp only[cZ,amN,amO] at h1 ⊢;simp only[bcH] at h1 ⊢;omega
def UB{α:Type}(l:List α)(c:Nat):(l.map λ_=>c).sum=l.length*c:=by induction l with|nil=>simp|cons a l ih=>simp only[bcH,bgZ,ih,amN,bdL];omega
def Ua(l:List Nd):(l.map λk=>5000*Ds k).sum=5000*H9 l:=by induction l with|nil=>simp[H9]|cons a l ih=>simp only[bcH,bgZ,ih,H9];omega
def aZ{f:Fn}(h:Z6 f):(1<=f.den/\f.den<=1000000)/\(1<=f.ps.length/\f.ps.length<=64)/\∀p∈f.ps,acZ f.den p:=by
 obtain⟨h1,h2,h3,h4⟩:=h;refine⟨h1,h2,λp hp=>?_⟩;obtain⟨i,hi⟩:=beI hp;have hd:1<=f.den/\f.den<=1000000:=h1;have e1:CE 999999999999 f.den=999999999999*f.den:=FU (by omega);have e2:CE (-999999999999) f.den=-(999999999999*f.den):=by rw[FU (by omega)];omega
 have hp0:∀(i:Nat) p,f.ps[i]?=some p->0<=p.fr:=by
  intro i
  induction i with
  |zero=>intro p hp;rw[h3 p hp];exact Int.le_refl _
  |succ i ih=>
   intro p hp;obtain⟨_,b,_⟩:=h4 (i+1) p hp;obtain⟨q,hq⟩:∃q,f.ps[i]?=some q:=⟨_,atS (by have:=(aHS.1 hp).1;omega)⟩;have:=b q (by omega) hq;have:=ih q hq;omega
 obtain⟨a,_,_,c,e,g,k⟩:=h4 i p hi;rw[e1] at c;rw[e2] at e;exact⟨⟨hp0 i p hi,a⟩,⟨e,c⟩,k,g⟩
def yX{s:ByteArray}(h:Ws s):s.data.toList.length<=16:=by rcases h with h | h | h | h | h | h | h | h | h | h | h<;>rw[h]<;>decide
def aEC(a b:Nd):H9 [a,b]=Ds a+Ds b:=by simp[H9]
def adV(a:Nd):H9 [a]=Ds a:=by simp[H9]
def aqD(d:Int)(p:Pc):Ao (ZF d p)=aK p.fr++[32,58,32]++seL (p.BH.tdiv d)++(if p.C7 < 0 then [32,45,32] else [32,43,32])++dP (Vr p.C7)++[47]++dP d:=by rw[azE];unfold ZF;simp only[CP,Ao];split<;>split<;>simp[Ao]
def Uw{d:Int}(hd:1<=d/\d<=1000000){p:Pc}(hp:acZ d p):(Ao (ZF d p)).length<=62:=by
 obtain⟨hf,ha,hsl⟩:=hp;obtain⟨_,hz⟩:=aGW hd ha;have hc1:=PW hf;have hi2:=GR (n:=d) (by omega);have nI:=oU hz;have hc3:=GR (n:=Vr p.C7) (by unfold Vr;split<;>omega)
 rw[aqD];have h2:(if p.C7 < 0 then [32,45,32] else [32,43,32]:List UInt8).length=3:=by split<;>rfl
 simp only[cZ,amN,amO,h2];omega
def UA{α ρ:Type}{F:α->List Ti}{body:Nat->α->ByteArray->List UInt8->Option (Lp (ByteArray×List UInt8) (List UInt8) ρ)}{B:Nat}{W:α->Nat}:∀(l:List α)(i:Nat)(sep:ByteArray)(t:List UInt8),t.length+(sep.data.toList).length+(l.map W).sum<=B ->
 sep.data.toList≠[]->(∀a∈l,(Ao (F a)).length+2<=W a) ->
 (∀a∈l,∀(i:Nat)(sep:ByteArray)(t:List UInt8),sep.data.toList≠[]->t.length+(sep.data.toList).length+W a<=B->body i a sep t=some (.nx (EX,t++(sep.data.toList++Ao (F a))))) ->
 Bu (ρ:=ρ) (λi y x=>body i y x.1 x.2) (λx=>x.2) l i (sep,t)=some (.inl (t++(if l=[] then [] else sep.data.toList++Ao (S1 (l.map F)))))
 |[],i,sep,t,_,_,_,_=>by rw[Bu,if_pos rfl,List.append_nil]
 |a::l,i,sep,t,ht,h1,hw,hb=>by
  rw[bcH,bgZ] at ht;have ha:=hw a (by simp);rw[Bu,hb a (by simp) i sep t h1 (by omega),if_neg (by simp)]
  try dsimp only
  show Bu _ _ l (i+1) (EX,_)=_;rw[UA l (i+1) EX _ (by simp only[cZ,KK,amN,amO];omega) (by decide) (λb Qp=>hw b (by simp[Qp])) (λb Qp=>hb b (by simp[Qp]))];congr 2;by_cases hl:l=[];subst hl;rw[if_pos rfl];simp[S1,Nu];rw[if_neg hl,bcH,S1,CP]
  obtain⟨b,l,rfl⟩:∃b m,l=b::m:=by cases l with|nil=>exact absurd rfl hl|cons b m=>exact⟨b,m,rfl⟩
  have:Nu ((b::l).map F)=T1 6 [44] [32]::S1 ((b::l).map F):=by unfold Nu;simp[S1,Nu]
  rw[this,Ao];simp only[KK];simp
def aAI{n:Nd}{p:Pb}{rE:Pb->Nd->Option (Unit×List UInt8)}{rO:Pb->Nd->Int->Option (Unit×List UInt8)}{rT:Pb->Nd->Option (Unit×List UInt8)}(hd:1<=n.Cg.den/\n.Cg.den<=1000000){e:Pc}(he:acZ n.Cg.den e)(i:Nat)(sep:ByteArray)(t:List UInt8)
   (h1:sep.data.toList≠[]) (ht:t.length+(sep.data.toList).length+64<=90000000):D6 rE rO rT p n i e sep t=some (.nx (EX,t++(sep.data.toList++Ao (ZF n.Cg.den e)))):=by
 have hlen:=Uw hd he;rw[aqD] at hlen ⊢;obtain⟨hf,ha,hsl⟩:=he;obtain⟨hq,hz⟩:=aGW hd ha;unfold D6;have hse:seL e.fr=aK e.fr:=if_neg (by omega);rw[hq,VA (z:=e.fr) (by omega),hse];generalize e.BH.tdiv n.Cg.den=z at *;simp only[TC];rw[VA hz];have hc1:=PW hf;have baH:aK e.fr≠[]:=by unfold aK;simp
 have hi2:=GR (n:=n.Cg.den) (by omega);have nI:=oU hz;simp only[TC];have hc3:=GR (n:=Vr e.C7) (by unfold Vr;split<;>omega)
 rw[AZ (by (try simp only[ES]);omega),AZ (by simp only[BY,ES,KK,cZ,amN,amO];omega),AZ (by simp only[BY,ES,KK,cZ,amN,amO];omega),Lb (by simp only[BY,ES];simp[h1]) (by simp only[BY,ES,KK,cZ,amN,amO];omega),TC]
 dsimp only;rw[HV,B9,TG (n:=n.Cg.den) (by omega)];by_cases hs:e.C7 < 0
 ·have es:Vr e.C7=-e.C7:=if_pos hs
  rw[es] at hc3;rw[Aq hs,if_pos hs,es,bG (by omega),TG (n:=-e.C7) (by omega),TC,AZ (by simp only[KK,ES,amN,amO];omega),Lb (by simp only[BY,KK];simp) (by simp only[BY,ES,KK,cZ,amN,amO];omega),TC]
  try dsimp only
  rw[TC,AZ (by simp only[KK,ES,amN,amO];omega),Lb (by simp only[BY,KK];simp) (by simp only[BY,ES,KK,cZ,amN,amO];omega),TC];simp only[BY,ES,KK];simp
 ·have es:Vr e.C7=e.C7:=if_neg hs
  rw[es] at hc3;rw[Ar hs,if_neg hs,es,TG (n:=e.C7) (by omega),TC,AZ (by simp only[KK,ES,amN,amO];omega),Lb (by simp only[BY,KK];simp) (by simp only[BY,ES,KK,cZ,amN,amO];omega),TC]
  try dsimp only
  rw[TC,AZ (by simp only[KK,ES,amN,amO];omega),Lb (by simp only[BY,KK];simp) (by simp only[BY,ES,KK,cZ,amN,amO];omega),TC];simp only[BY,ES,KK];simp
def aDJ{n:Nd}{p:Pb}(hp:p.levels=Ic)(ho:n.kind=16->Ws n.name):Dr p n=some ((ND n:Nat):Int):=by
 unfold Dr ND;rw[hp,BT,BT,B9,B9];by_cases S7:n.kind=16;rw[Aq S7,if_neg (by omega),if_pos S7];have ho:=ho S7;generalize n.name=s at ho ⊢;rcases ho with rfl | rfl | rfl | rfl | rfl | rfl | rfl | rfl | rfl | rfl | rfl<;>(show _=_)<;>kernel_rfl
 rw[Ar S7];by_cases TH:n.kind=15;rw[Aq TH,if_pos TH];rfl;rw[Ar TH,if_neg TH,if_neg S7];rfl
def aoH{s:ByteArray}(h:Ws s):Qw s=0\/Qw s=1\/Qw s=3\/Qw s=4\/Qw s=5:=by rcases h with rfl | rfl | rfl | rfl | rfl | rfl | rfl | rfl | rfl | rfl | rfl<;>decide
def abN{n:Nd}(h:Wq n):n.kind=16->Ws n.name:=λk=>((afZ k).1 h).2.2.1
def R9(a l:Nat)(t:List Ti):(Ao (opT a l t)).length<=(Ao t).length+2:=by rw[apR];split;simp;omega
def Kk:∀(m:Nat)(n:Nd),Ds n<=m->He n->1<=(Ao (tP n)).length/\(Ao (tP n)).length+6<=5000*Ds n:=by
 intro m
 induction m with
 |zero=>intro n h;have:=CS n;omega
 |succ m ih=>
 intro n hm hx;have hsz:=CS n;obtain⟨hQ,OE⟩:=(Ga n).1 hx;have hk:∀k∈n.kids,1<=(Ao (tP k)).length/\(Ao (tP k)).length+6<=5000*Ds k:=λk hk=>ih k (by have:=Fx hk;omega) (OE k hk);rw[asO];unfold YY;by_cases dR:n.kind=11;rw[if_pos dR];obtain⟨a,b,c,_⟩:=(xI dR).1 hQ;have:=axF a ⟨b,c⟩;omega;rw[if_neg dR];by_cases wE:n.kind=12\/n.kind=14;rw[if_pos wE]
 have:1<=(n.name.data.toList).length/\(n.name.data.toList).length<=16:=by
  rcases wE with h | h
  exact((avM h).1 hQ).1.1;rcases((avN h).1 hQ).1 with h | h | h | h<;>rw[h]<;>decide
 simp only[Ao,cZ,amO];omega;rw[if_neg wE];by_cases Ze:n.kind=13;rw[if_pos Ze];have hr:1<=n.n/\n.n<=1000000:=((alF Ze).1 hQ).1;have hl:=GR (n:=n.n) (by omega);simp only[Ao,cZ,amN,amO,LL];omega;rw[if_neg Ze];by_cases TH:n.kind=15
 ·rw[if_pos TH]
  have hl:=((alG TH).1 hQ).1;generalize aR n 0=v;generalize n.kids=ks at *
  match ks,hl with
  |[x],_=>
  obtain⟨h1,h2⟩:=hk x (by simp);rw[adV] at hsz;have:=R9 2 v (tP x);rw[show([x].map tP).getD 0 []=tP x from rfl,Ao];simp only[cZ,amN,amO,LL];omega
 rw[if_neg TH];by_cases S7:n.kind=16
 ·rw[if_pos S7]
  obtain⟨_,hl,ho,_⟩:=(afZ S7).1 hQ;have hlo:=yX ho;generalize aR n 0=v0;generalize aR n 1=v1;generalize n.kids=ks at *
  match ks,hl with
  |[x,y],_=>
  obtain⟨h1,h2⟩:=hk x (by simp);obtain⟨g1,g2⟩:=hk y (by simp);rw[aEC] at hsz;have a1:=R9 (loL (Qw n.name)) v0 (tP x);have a2:=R9 (Qw n.name+1) v1 (tP y)
  have hne:opT (loL (Qw n.name)) v0 (tP x)≠[]:=by unfold opT;split;simp;intro e;rw[e] at h1;simp[Ao] at h1
  have h5:(n.name.data.toList).length<=16:=hlo;rw[show([x,y].map tP).getD 0 []=tP x from rfl,show([x,y].map tP).getD 1 []=tP y from rfl,CP,Ao,mG hne];simp only[cZ,amN,amO];omega
 rw[if_neg S7];by_cases kJ:n.kind=18
 ·rw[if_pos kJ]
  obtain⟨_,ht,hl⟩:=(alI kJ).1 hQ;obtain⟨hd,hn,hp⟩:=aZ ht;have hs:=Sr (f:=ZF n.Cg.den) (W:=λ_=>64) n.Cg.ps λp hp'=>by have:=Uw hd (hp p hp');omega
  rw[UB] at hs;generalize n.kids=ks at *
  match ks,hl with
  |[x],_=>
  obtain⟨h1,h2⟩:=hk x (by simp);rw[adV] at hsz;rw[show([x].map tP).getD 0 []=tP x from rfl];simp only[CP,Ao,cZ,amN,amO,LL,aiA];omega
 rw[if_neg kJ];have sC:n.kind=17:=by have:=Uo hQ;omega
 obtain⟨hnm,_,hl⟩:=(alH sC).1 hQ;have hln:1<=(n.name.data.toList).length/\(n.name.data.toList).length<=8:=by rcases hnm with h | h<;>rw[h]<;>decide
 have hs:=Sr (f:=tP) (W:=λk=>5000*Ds k) n.kids λk OV=>by have:=hk k OV;omega
 rw[Ua] at hs;simp only[CP,Ao,cZ,amN,amO];omega
def aSP{n:Nd}(h:He n):tP n≠[]:=λe=>by
 have:=(Kk _ n (aHT _) h).1;rw[e] at this;simp[Ao] at this
def apS{n:Nd}(h:He n)(a l:Nat):opT a l (tP n)≠[]:=by unfold opT;split;simp;exact aSP h
def aDP:∀(q:Nat)(n:Nd),He n->Ds n<=q->Ds n<=2000->∀f,2*q<=f->∀p:Pb,p.levels=Ic->p.text.length+5000*Ds n<=40000000->A9 f p n=some ((),p.text++Ao (tP n)):=by
 intro q
 induction q with
 |zero=>intro n _ h;have:=CS n;omega
 |succ q ih=>
 intro n hx hq h2000 f hf p hp ht;obtain⟨f,rfl⟩:∃k,f=k+2:=⟨f - 2,by omega⟩;have hsz:=CS n;obtain⟨hQ,OE⟩:=(Ga n).1 hx
 have hk:∀k∈n.kids,∀f,2*q<=f->∀p:Pb,p.levels=Ic->p.text.length+5000*Ds k<=40000000->A9 f p k=some ((),p.text++Ao (tP k)):=λk hk=>by
  have:=Fx hk;exact ih k (OE k hk) (by omega) (by omega)
 have WW:∀k∈n.kids,∀(a:Nat)(p:Pb),p.levels=Ic->p.text.length+5000*Ds k+1<=40000000->AY (f+1) p k (a:Int)=some ((),p.text++Ao (opT a (ND k) (tP k))):=λk OV a p hp ht=>by
  obtain⟨kQ,_⟩:=(Ga k).1 (OE k OV);have hl:=(Kk _ k (aHT _) (OE k OV)).2;rw[AY,G8,aDJ hp (abN kQ),TC,FY,B9,apR];by_cases h:(a:Int)<=(ND k:Int);rw[Aq h,if_neg (by omega),hk k OV f (by omega) p hp (by omega)];rfl;rw[Ar h,if_pos (by omega),Lb (by decide) (by simp only[KK,amN,amO];omega),TC];dsimp only;rw[hk k OV f (by omega) ⟨p.text++Mh.data.toList,p.levels⟩ hp (by simp only[KK,cZ,amN,amO];have:=CS k;omega),TC];dsimp only;rw[Lb (by decide) (by simp only[KK,cZ,amN,amO];omega)];simp only[KK,TC];simp
 rw[A9,IY,asO];simp only[BT,B9];unfold YY;by_cases dR:n.kind=11;rw[Aq dR,if_pos dR];obtain⟨a,b,c,_⟩:=(xI dR).1 hQ;rw[aKI a ⟨b,c⟩ (by omega)];rfl;rw[Ar dR,if_neg dR];by_cases wE:n.kind=12;rw[Aq wE,if_pos (.inl wE)];have:=((avM wE).1 hQ).1.1;have h1:1<=(n.name.data.toList).length/\(n.name.data.toList).length<=16:=this;rw[Lb (by intro e;rw[e] at h1;simp at h1) (by omega)];simp[Ao];rw[Ar wE];by_cases k14:n.kind=14;rw[Aq k14,if_pos (.inr k14)];have h1:1<=(n.name.data.toList).length/\(n.name.data.toList).length<=16:=by rcases((avN k14).1 hQ).1 with h | h | h | h<;>rw[h]<;>decide
 rw[Lb (by intro e;rw[e] at h1;simp at h1) (by omega)];simp[Ao];rw[Ar k14,if_neg (by omega)];by_cases Ze:n.kind=13;rw[Aq Ze,if_pos Ze];have hr:1<=n.n/\n.n<=1000000:=((alF Ze).1 hQ).1;have hl:=GR (n:=n.n) (by omega);rw[TG (by omega),TC,AZ (by simp only[KK,ES,cZ,amN,amO,LL];omega),Lb (by simp only[BY,KK];simp) (by simp only[BY,ES,KK,cZ,amN,amO,LL];omega)];simp only[BY,ES,KK,TC,Ao];simp;rw[Ar Ze,if_neg Ze];by_cases TH:n.kind=15
 ·rw[Aq TH,if_pos TH]
  have hl:=((alG TH).1 hQ).1;have hv:∀x,n.kids[0]?=some x->aR n 0=ND x:=λx h=>by unfold aR;rw[h]
  generalize aR n 0=v at *;generalize n.kids=ks at *
  match ks,hl with
  |[x],_=>
  have hv:=hv x rfl;subst hv;rw[adV] at hsz;rw[Lb (by decide) (by simp only[KK,cZ,amN,amO,LL];omega),TC];dsimp only;rw[bbH,TC,show(2:Int)=((2:Nat):Int) from rfl,WW x (by simp) 2 ⟨_,p.levels⟩ (by exact hp) (by simp only[KK,cZ,amN,amO,LL];omega)];rw[show([x].map tP).getD 0 []=tP x from rfl,Ao];simp only[KK,TC];simp
 rw[Ar TH,if_neg TH];by_cases S7:n.kind=16
 ·rw[Aq S7,if_pos S7,aDJ hp (abN hQ),TC]
  have hlv:ND n=Qw n.name:=by unfold ND;rw[if_neg (by omega),if_pos S7]
  rw[hlv];obtain⟨_,hl,ho,_⟩:=(afZ S7).1 hQ;have hlo:(n.name.data.toList).length<=16:=yX ho;have hv0:∀x,n.kids[0]?=some x->aR n 0=ND x:=λx h=>by unfold aR;rw[h]
  have hv1:∀x,n.kids[1]?=some x->aR n 1=ND x:=λx h=>by unfold aR;rw[h]
  generalize aR n 0=v0 at *;generalize aR n 1=v1 at *;generalize n.kids=ks at *
  match ks,hl with
  |[x,y],_=>
  have hv0:=hv0 x rfl;have hv1:=hv1 y rfl;subst hv0 hv1;rw[aEC] at hsz;have wC:=(Kk _ x (aHT _) (OE x (by simp))).2;have BF:=(Kk _ y (aHT _) (OE y (by simp))).2;rw[show([x,y].map tP).getD 0 []=tP x from rfl,show([x,y].map tP).getD 1 []=tP y from rfl,CP,Ao,mG (apS (OE x (by simp)) _ _)]
  have br:∀a b:Nat,((([x,y])[0]?).bind λx11=>(AY (f+1) p x11 (a:Int)).bind λ(gT,Ud)=>B6 (CJ.data.toList.length+n.name.data.toList.length) (B6 ((CJ++n.name).data.toList.length+CJ.data.toList.length) ((Ab (⟨Ud,p.levels⟩:Pb) ((CJ++n.name)++CJ)).bind λ(XT,PJ)=>(([x,y])[1]?).bind λx16=>(AY (f+1) (⟨PJ,p.levels⟩:Pb) x16 (b:Int)).bind λ(jJ,Z9)=>some ((),Z9)))) =
   some ((),p.text++(Ao (opT a (ND x) (tP x))++[32]++(n.name.data.toList++([32]++Ao (opT b (ND y) (tP y)))))):=by
   intro a b;have a1:=R9 a (ND x) (tP x);rw[bbH,TC,WW x (by simp) a p hp (by omega),TC];dsimp only;rw[AZ (by simp only[KK,cZ,amN,amO];omega),AZ (by simp only[BY,KK,cZ,amN,amO];omega),Lb (by simp only[BY,KK];simp) (by simp only[BY,ES,KK,cZ,amN,amO];omega),TC];dsimp only;rw[bdV,bbH,TC,WW y (by simp) b ⟨_,p.levels⟩ (by exact hp) (by simp only[BY,KK,cZ,amN,amO];omega)];simp only[BY,KK,TC];simp
  rcases aoH ho with e | e | e | e | e<;>rw[e]
  rw[Aq (by decide)];exact br 0 1;rw[Ar (by decide),Aq (by decide)];exact br 1 2;rw[Ar (by decide),Ar (by decide),Ar (by decide),Aq (by decide)];exact br 4 4;rw[Ar (by decide),Ar (by decide),Ar (by decide),Ar (by decide),Aq (by decide)];exact br 4 5;rw[Ar (by decide),Ar (by decide),Ar (by decide),Ar (by decide),Ar (by decide),Aq (by decide)];exact br 5 6
 rw[Ar S7,if_neg S7];by_cases sC:n.kind=17;rw[Aq sC,if_neg (by omega)];obtain⟨hnm,_,hl⟩:=(alH sC).1 hQ;have hln:1<=(n.name.data.toList).length/\(n.name.data.toList).length<=8:=by rcases hnm with h | h<;>rw[h]<;>decide
 have nK:=Kj n.kids;have hkn:n.kids≠[]:=by intro e;rw[e] at hl;simp at hl
 have hs:=Sr (f:=tP) (W:=λk=>5000*Ds k) n.kids λk OV=>by have:=(Kk _ k (aHT _) (OE k OV)).2;omega
 rw[Ua] at hs
 have Y8:=UA (ρ:=Unit×List UInt8) (F:=tP) (B:=40000000) (W:=λk=>5000*Ds k) (body:=λi y a b=>FQ (A9 (f+1)) (AY (f+1)) (By (f+1)) p i y a b) n.kids 0 (n.name++Mh) p.text (by
  rw[Ua];simp only[BY,KK,cZ,amN,amO];omega) (by simp only[BY,KK];simp) (λk OV=>by have:=(Kk _ k (aHT _) (OE k OV)).2;omega) (λk OV i sep t h1 h2=>by
  unfold FQ;rw[Lb h1 (by show t.length+_<=_;omega),TC];dsimp only;rw[hk k OV (f+1) (by omega) ⟨_,p.levels⟩ (by exact hp) (by simp only[cZ];omega)];simp only[TC];simp)
 rw[if_neg hkn] at Y8;rw[AZ (by simp only[KK,amN,amO];omega),AZ (by omega),bbQ,Y8,TC];dsimp only[GF];rw[Lb (by decide) (by simp only[BY,KK,cZ,amN,amO];omega)];simp only[BY,KK,TC,Ao,CP];simp;rw[Ar sC];have kJ:n.kind=18:=by have:=Uo hQ;omega
 rw[Aq kJ,if_pos kJ];obtain⟨_,agI,hl⟩:=(alI kJ).1 hQ;obtain⟨hd,hn,hpc⟩:=aZ agI;have hs:=Sr (f:=ZF n.Cg.den) (W:=λ_=>64) n.Cg.ps λp hp'=>by have:=Uw hd (hpc p hp');omega
 rw[UB] at hs;have hpn:n.Cg.ps≠[]:=by intro e;rw[e] at hn;simp at hn
 rw[By,IC];generalize baK:n.kids=ks at *
 match ks,hl with
 |[x],_=>
 have wC:=(Kk _ x (aHT _) (OE x (by simp))).2;rw[adV] at hsz;rw[Lb (by decide) (by simp only[KK,cZ,amN,amO,LL];omega),TC];dsimp only;rw[bbH,TC,hk x (by simp) f (by omega) ⟨_,p.levels⟩ (by exact hp) (by simp only[KK,cZ,amN,amO,LL];omega),TC];dsimp only
 have Y8:=UA (ρ:=Unit×List UInt8) (F:=ZF n.Cg.den) (B:=90000000) (W:=λ_=>64) (body:=λi y a b=>D6 (A9 f) (AY f) (By f) p n i y a b) n.Cg.ps 0 TX (p.text++EM.data.toList++Ao (tP x)) (by
  rw[UB];simp only[KK,cZ,amN,amO,LL];omega) (by decide) (λe he=>by have:=Uw hd (hpc e he);omega) (λe he i sep t h1 h2=>aAI hd (hpc e he) i sep t h1 h2)
 rw[if_neg hpn] at Y8;rw[AZ (by omega),bbQ,Y8,TC];dsimp only[GF];rw[Lb (by decide) (by simp only[KK,cZ,amN,amO,LL];omega)];rw[show([x].map tP).getD 0 []=tP x from rfl];simp only[KK,TC,Ao,CP,aiA];simp
def XD{α ρ:Type}{f:α->List Ti}{body:Nat->α->ByteArray->Option (Lp ByteArray ByteArray ρ)}:∀(l:List α)(i:Nat)(s:ByteArray)(W:Nat),(s.data.toList).length+l.length*(W+2)<=1000000000000 ->
 (∀a∈l,(Ao (f a)).length<=W) ->
 (∀a∈l,∀(i:Nat)(s:ByteArray),(s.data.toList).length<=1000000000000->∃s',body i a s=some (.nx s')/\s'.data.toList=s.data.toList++(if i=0 then Ao (f a) else [44,32]++Ao (f a))) ->
 ∃s',Bu (ρ:=ρ) body (λx=>x) l i s=some (.inl s')/\s'.data.toList=s.data.toList++Ao (if i=0 then S1 (l.map f) else Nu (l.map f))
 |[],i,s,W,_,_,_=>⟨s,rfl,by by_cases h:i=0<;>simp[h,S1,Nu,Ao]⟩
 |a::l,i,s,W,hs,hw,hb=>by
  have ha:=hw a (by simp);rw[amN,bdL,Nat.one_mul] at hs;obtain⟨s1,h1,h2⟩:=hb a (by simp) i s (by omega)
  have kF:(s1.data.toList).length<=(s.data.toList).length+(W+2):=by rw[h2,cZ];by_cases h:i=0;rw[if_pos h];omega;rw[if_neg h,cZ];simp only[amN,amO];omega
  obtain⟨s2,h3,h4⟩:=XD l (i+1) s1 W (by omega) (λb Qp=>hw b (by simp[Qp])) (λb Qp=>hb b (by simp[Qp]));refine⟨s2,?_,?_⟩;rw[Bu,h1];exact h3;rw[h4,h2,if_neg (Nat.succ_ne_zero i)];by_cases h:i=0;rw[if_pos h,if_pos h,bcH,S1,CP,beJ];rw[if_neg h,if_neg h,bcH];have:Nu (f a::l.map f)=T1 6 [44] [32]::(f a++Nu (l.map f)):=by unfold Nu;simp
  rw[this,Ao,CP];simp
abbrev hP(l:List UInt8):ByteArray:=⟨l.toArray⟩
def aLJ{g:Fn}(hd:1<=g.den/\g.den<=1000000){e:Pc}(he:acZ g.den e)(i:Nat)(s:ByteArray)(hs:(s.data.toList).length<=1000000000000) :
   ∃s',K2 g i e s=some (.nx s')/\s'.data.toList=s.data.toList++(if i=0 then Ao (ZF g.den e) else [44,32]++Ao (ZF g.den e)):=by
 rw[aqD];obtain⟨hf,ha,hsl⟩:=he;obtain⟨hq,hz⟩:=aGW hd ha;unfold K2;have hse:seL e.fr=aK e.fr:=if_neg (by omega);rw[hq,eV (z:=e.fr) (by omega),hse];generalize e.BH.tdiv g.den=z at *;simp only[TC];rw[eV hz,Kw (n:=g.den) (by omega)];have hc1:=PW hf;have hi2:=GR (n:=g.den) (by omega);have nI:=oU hz;have hc3:=GR (n:=Vr e.C7) (by unfold Vr;split<;>omega)
 simp only[TC,HV,B9];by_cases hs0:e.C7 < 0
 ·have es:Vr e.C7=-e.C7:=if_pos hs0
  rw[es] at hc3;rw[Aq hs0,Aq hs0,if_pos hs0,es,bG (by omega),Kw (n:=-e.C7) (by omega)];by_cases h0:i=0
  ·rw[if_pos h0,Ar (by omega)]
   simp (disch:=((try simp only[BY,ES,KK,cZ,amN,amO]);omega)) only [AZ,TC]
   exact⟨_,rfl,by simp only[BY,ES,KK];simp⟩
  ·rw[if_neg h0,Aq (by omega)]
   simp (disch:=((try simp only[BY,ES,KK,cZ,amN,amO]);omega)) only [AZ,TC]
   exact⟨_,rfl,by simp only[BY,ES,KK];simp⟩
 ·have es:Vr e.C7=e.C7:=if_neg hs0
  rw[es] at hc3;rw[Ar hs0,Ar hs0,if_neg hs0,es,Kw (n:=e.C7) (by omega)];by_cases h0:i=0
  ·rw[if_pos h0,Ar (by omega)]
   simp (disch:=((try simp only[BY,ES,KK,cZ,amN,amO]);omega)) only [AZ,TC]
   exact⟨_,rfl,by simp only[BY,ES,KK];simp⟩
  ·rw[if_neg h0,Aq (by omega)]
   simp (disch:=((try simp only[BY,ES,KK,cZ,amN,amO]);omega)) only [AZ,TC]
   exact⟨_,rfl,by simp only[BY,ES,KK];simp⟩
def ahK{f:Fn}(h:Z6 f):L1 f=some (hP (Ao (aiA f))):=by obtain⟨hd,hn,hp⟩:=aZ h;obtain⟨s',h1,h2⟩:=XD (ρ:=ByteArray) (f:=ZF f.den) (body:=λi y x=>K2 f i y x) f.ps 0 VE 62 (by rw[show(VE.data.toList).length=0 from rfl];omega) (λp hp'=>Uw hd (hp p hp')) (λp hp' i s hs=>aLJ hd (hp p hp') i s hs);rw[L1,AZ (by omega),bbQ,h1,TC];rw[if_pos rfl] at h2;exact congrArg some (Co (by rw[M9];exact h2))
def aqX{n:Nd}(ho:n.kind=16->Ws n.name):Ji n=some ((ND n:Nat):Int):=by
 unfold Ji ND;rw[BT,BT,B9,B9];by_cases TH:n.kind=15;rw[Aq TH,if_pos TH];rfl;rw[Ar TH,if_neg TH];by_cases S7:n.kind=16;rw[Aq S7,if_pos S7];have ho:=ho S7;generalize n.name=s at ho ⊢;rcases ho with rfl | rfl | rfl | rfl | rfl | rfl | rfl | rfl | rfl | rfl | rfl<;>(show _=_)<;>kernel_rfl
 rw[Ar S7,if_neg S7];rfl
def aDW:∀(q:Nat)(n:Nd),He n->Ds n<=q->Ds n<=2000->∀f,2*q<=f->C4 f n=some (hP (Ao (tP n))):=by
 intro q
 induction q with
 |zero=>intro n _ h;have:=CS n;omega
 |succ q ih=>
 intro n hx hq h2000 f hf;obtain⟨f,rfl⟩:∃k,f=k+2:=⟨f - 2,by omega⟩;have hsz:=CS n;obtain⟨hQ,OE⟩:=(Ga n).1 hx
 have hlen:∀k∈n.kids,(Ao (tP k)).length<=10000000:=λk hk=>by
  have:=Fx hk;have:=(Kk _ k (aHT _) (OE k hk)).2;omega
 have hk:∀k∈n.kids,∀f,2*q<=f->C4 f k=some (hP (Ao (tP k))):=λk hk=>by
  have:=Fx hk;exact ih k (OE k hk) (by omega) (by omega)
 have WW:∀k∈n.kids,∀(a:Nat),Cy (f+1) k (a:Int)=some (hP (Ao (opT a (ND k) (tP k)))):=λk OV a=>by
  obtain⟨kQ,_⟩:=(Ga k).1 (OE k OV);have hl:=hlen k OV;rw[Cy,NS,aqX (abN kQ),TC,HV,B9,apR,hk k OV f (by omega)];by_cases h:(ND k:Int) < (a:Int);rw[Aq h,if_pos (by omega),TC,AZ (by simp only[ES,KK,amN,amO];omega),AZ (by simp only[BY,ES,KK,cZ,amN,amO];omega)];exact congrArg some (Co (by rw[M9];simp only[BY,ES,KK];simp));rw[Ar h,if_neg (by omega),TC]
 rw[C4,Sj,asO];simp only[BT,FW,B9];unfold YY;by_cases dR:n.kind=11;rw[Aq dR,if_pos dR];obtain⟨hu,b,c,_⟩:=(xI dR).1 hQ;have hn:0<=n.n/\n.n<=999999999999:=⟨b,c⟩;have hi:=GR hn;have hc:=PW hn;have hs:seL n.n=aK n.n:=if_neg (by omega);unfold yN;rw[Kw hn,eV (by omega),hs];by_cases u1:n.unit=CW;rw[Aq u1,if_pos u1,TC];exact congrArg some (Co (by rw[M9,M9];simp[Ao]));rw[Ar u1,if_neg u1];by_cases u2:n.unit=Dw;rw[Aq u2,if_pos u2,TC,AZ (by simp only[ES,KK,amN,LL];omega)];exact congrArg some (Co (by rw[M9];simp only[BY,ES,KK,Ao];simp));rw[Ar u2,if_neg u2];by_cases u3:n.unit=Ey;rw[Aq u3,if_pos u3];by_cases h1:n.n=1;rw[Aq h1,if_pos h1];exact congrArg some (Co (by rw[M9];simp[Ao]));rw[Ar h1,if_neg h1];exact congrArg some (Co (by rw[M9];simp[Ao]));rw[Ar u3,if_neg u3];have hl:=gD hu u1 u2 u3;rw[AZ (by simp only[KK,amN,amO];omega),TC,AZ (by simp only[BY,ES,KK,cZ,amN,amO];omega)];exact congrArg some (Co (by rw[M9];simp only[BY,ES,KK,Ao];simp));rw[Ar dR,if_neg dR];by_cases Ze:n.kind=13;rw[Aq Ze,if_neg (by omega),if_pos Ze];have hr:1<=n.n/\n.n<=1000000:=((alF Ze).1 hQ).1;have hl:=GR (n:=n.n) (by omega);rw[Kw (by omega),TC,AZ (by simp only[KK,ES,cZ,amN,amO,LL];omega)];exact congrArg some (Co (by rw[M9];simp only[BY,ES,KK,Ao];simp));rw[Ar Ze];by_cases TH:n.kind=15
 ·rw[Aq TH,if_neg (by omega),if_neg Ze,if_pos TH]
  have hl:=((alG TH).1 hQ).1;have hv:∀x,n.kids[0]?=some x->aR n 0=ND x:=λx h=>by unfold aR;rw[h]
  generalize aR n 0=v at *;generalize n.kids=ks at *
  match ks,hl with
  |[x],_=>
  have hv:=hv x rfl;subst hv;have wC:=hlen x (by simp);have a1:=R9 2 (ND x) (tP x);rw[bbH,TC,show(2:Int)=((2:Nat):Int) from rfl,WW x (by simp) 2,TC,AZ (by simp only[KK,ES,cZ,amN,amO,LL];omega)];exact congrArg some (Co (by rw[M9,show([x].map tP).getD 0 []=tP x from rfl,Ao];simp only[BY,ES,KK];simp))
 rw[Ar TH];by_cases sC:n.kind=17;rw[Aq sC,if_neg (by omega),if_neg Ze,if_neg TH,if_neg (by omega),if_neg (by omega)];obtain⟨hnm,_,hl⟩:=(alH sC).1 hQ;have hln:n.name.data.toList.length<=8:=by rcases hnm with h | h<;>rw[h]<;>decide
 have nK:=Kj n.kids
 have hli:C5 (f+1) n.kids=some (hP (Ao (S1 (n.kids.map tP)))):=by
  obtain⟨s',e1,e2⟩:=XD (ρ:=ByteArray) (f:=tP) (body:=λi y x=>KM (C4 f) (Cy f) (C5 f) i y x) n.kids 0 VE 10000000 (by
   have:n.kids.length*(10000000+2)<=2000*(10000000+2):=bdE _ (by omega);have h0:(VE.data.toList).length=0:=rfl;omega) (λk OV=>hlen k OV) (λk OV i s hs=>by
   have h1:=hlen k OV;unfold KM;rw[hk k OV f (by omega),HV,B9,TC];by_cases h0:i=0;rw[if_pos h0,Ar (by omega),TC,AZ (by simp only[ES];omega)];exact⟨_,rfl,by simp only[BY,ES]⟩;rw[if_neg h0,Aq (by omega),AZ (by simp only[KK,amN,amO];omega),AZ (by simp only[BY,ES,KK,cZ,amN,amO];omega)];exact⟨_,rfl,by simp only[BY,ES,KK];simp⟩)
  rw[C5,Oz,AZ (by omega),bbQ,e1,TC];rw[if_pos rfl] at e2;exact congrArg some (Co (by rw[M9];exact e2))
 have hs:=Sr (f:=tP) (W:=λk=>5000*Ds k) n.kids λk OV=>by have:=(Kk _ k (aHT _) (OE k OV)).2;omega
 rw[Ua] at hs;rw[hli,AZ (by simp only[KK,amN,amO];omega),TC,AZ (by simp only[BY,ES,KK,cZ,amN,amO];omega),AZ (by simp only[BY,ES,KK,cZ,amN,amO];omega)];exact congrArg some (Co (by rw[M9];simp only[BY,ES,KK,Ao,CP];simp));rw[Ar sC];by_cases kJ:n.kind=18
 ·rw[Aq kJ,if_neg (by omega),if_neg Ze,if_neg TH,if_neg (by omega),if_pos kJ]
  obtain⟨_,agI,hl⟩:=(alI kJ).1 hQ;obtain⟨hd,hn,hpc⟩:=aZ agI;have hs:=Sr (f:=ZF n.Cg.den) (W:=λ_=>64) n.Cg.ps λp hp'=>by have:=Uw hd (hpc p hp');omega
  rw[UB] at hs;generalize n.kids=ks at *
  match ks,hl with
  |[x],_=>
  have wC:=hlen x (by simp);rw[bbH,TC,hk x (by simp) (f+1) (by omega),TC,ahK agI];have ht2:(Ao (aiA n.Cg)).length<=5000:=by unfold aiA;omega
  rw[AZ (by simp only[KK,ES,cZ,amN,amO,LL];omega),AZ (by simp only[BY,ES,KK,cZ,amN,amO,LL];omega),TC,AZ (by simp only[BY,ES,KK,cZ,amN,amO,LL];omega),AZ (by simp only[BY,ES,KK,cZ,amN,amO,LL];omega)];exact congrArg some (Co (by rw[M9,show([x].map tP).getD 0 []=tP x from rfl];simp only[BY,ES,KK,Ao,CP];simp))
 rw[Ar kJ];by_cases S7:n.kind=16
 ·rw[Aq S7,if_neg (by omega),if_neg Ze,if_neg TH,if_pos S7,aqX (abN hQ),TC]
  have hlv:ND n=Qw n.name:=by unfold ND;rw[if_neg (by omega),if_pos S7]
  rw[hlv];obtain⟨_,hl,ho,_⟩:=(afZ S7).1 hQ;have hlo:(n.name.data.toList).length<=16:=yX ho;have hv0:∀x,n.kids[0]?=some x->aR n 0=ND x:=λx h=>by unfold aR;rw[h]
  have hv1:∀x,n.kids[1]?=some x->aR n 1=ND x:=λx h=>by unfold aR;rw[h]
  generalize aR n 0=v0 at *;generalize aR n 1=v1 at *;generalize n.kids=ks at *
  match ks,hl with
  |[x,y],_=>
  have hv0:=hv0 x rfl;have hv1:=hv1 y rfl;subst hv0 hv1;have wC:=hlen x (by simp);have BF:=hlen y (by simp);rw[show([x,y].map tP).getD 0 []=tP x from rfl,show([x,y].map tP).getD 1 []=tP y from rfl,CP,Ao,mG (apS (OE x (by simp)) _ _)]
  have hw:Ba ((Qw n.name:Nat):Int) 1=((Qw n.name+1:Nat):Int):=by have:=aoH ho;rw[BS (by omega)];omega
  rw[hw];have a1:=R9 (loL (Qw n.name)) (ND x) (tP x);have a2:=R9 (Qw n.name+1) (ND y) (tP y);by_cases h3:Qw n.name=3;rw[Aq (by omega)];have e4:loL (Qw n.name)=4:=if_pos h3;rw[e4] at a1 ⊢;rw[bbH,TC,show(4:Int)=((4:Nat):Int) from rfl,WW x (by simp) 4,TC,AZ (by simp only[KK,ES,amN,amO];omega),AZ (by simp only[BY,ES,KK,cZ,amN,amO];omega),AZ (by simp only[BY,ES,KK,cZ,amN,amO];omega),bdV,bbH,TC,WW y (by simp),TC,AZ (by simp only[BY,ES,KK,cZ,amN,amO];omega)];exact congrArg some (Co (by rw[M9];simp only[BY,ES,KK];simp));rw[Ar (by omega)];have e4:loL (Qw n.name)=Qw n.name:=if_neg h3;rw[e4] at a1 ⊢;rw[bbH,TC,WW x (by simp),TC,AZ (by simp only[KK,ES,amN,amO];omega),AZ (by simp only[BY,ES,KK,cZ,amN,amO];omega),AZ (by simp only[BY,ES,KK,cZ,amN,amO];omega),bdV,bbH,TC,WW y (by simp),TC,AZ (by simp only[BY,ES,KK,cZ,amN,amO];omega)];exact congrArg some (Co (by rw[M9];simp only[BY,ES,KK];simp))
 rw[Ar S7];have OV:n.kind=12\/n.kind=14:=by have:=Uo hQ;omega
 rw[if_pos OV];exact congrArg some (Co (by rw[M9];simp[Ao]))
def mbY{p:Prop}(h:p):mb p=true:=Ch.2 h
def aOL(k:Nat):Bool:=match AG (2000+((k / 12:Nat):Int)) ((k % 12:Nat):Int),BD ((k:Nat):Int),LV (2000+((k / 12:Nat):Int)) (((k % 12:Nat):Int)+1) with
 |some n,some f,some n'=>Bg n n'&&(Lg 28 n&&(Lg n 31&&(Lg 0 f&&((cond (bfD 1199 k) (Bg (f+n) 36525) (match BD (((k+1:Nat)):Int) with | some g=>Bg g (f+n) | none=>false))&&cond (Nat.beq k 0) (Bg f 0) true))))
 |_,_,_=>false
def akC:((bcB 1200).all aOL)=true:=by kernel_rfl
def cB{k:Nat}(hk:k < 1200):∃n f:Int,AG (2000+((k / 12:Nat):Int)) ((k % 12:Nat):Int)=some n/\BD ((k:Nat):Int)=some f/\LV (2000+((k / 12:Nat):Int)) (((k % 12:Nat):Int)+1)=some n /\
 (28<=n/\n<=31)/\0<=f/\(k+1 < 1200->BD (((k+1:Nat)):Int)=some (f+n))/\(k+1=1200->f+n=36525)/\(k=0->f=0):=by
 have h:=bcC.1 akC k (bcZ.2 hk);unfold aOL at h;split at h;rotate_left;cases h;rename_i n f n' h1 h2 h3;simp only[Bool.and_eq_true] at h;obtain⟨a1,a2,a3,a4,a5,a6⟩:=h;rw[BT,Ch] at a1;rw[FY,Ch] at a2 a3 a4;subst a1;refine⟨n,f,h1,h2,h3,⟨a2,a3⟩,a4,λh=>?_,λh=>?_,λh=>?_⟩
 have:bfD 1199 k=false:=by cases hb:bfD 1199 k with|false=>rfl|true=>have:=Nat.le_of_ble_eq_true hb;omega
 rw[this,cond_false] at a5;split at a5;rename_i g hg;rw[BT,Ch] at a5;rw[hg,a5];cases a5;have:bfD 1199 k=true:=Nat.ble_eq_true_of_le (by omega);rw[this,cond_true,BT,Ch] at a5;exact a5;subst h;rw[show Nat.beq 0 0=true from rfl,cond_true,BT,Ch] at a6;exact a6
def qS(day:Int)(hd:day<=36524):∀(d k:Nat)(f:Int),k+d=1200->0 < d->BD ((k:Nat):Int)=some f->f<=day ->
 ∃(j:Nat)(n g r:Int),j < 1200/\CT (λx=>HY x.1 x.2.1 x.2.2) d (day - f,2000+((k / 12:Nat):Int),((k % 12:Nat):Int)+1)=some (.inl (r,2000+((j / 12:Nat):Int),((j % 12:Nat):Int)+1)) /\
  AG (2000+((j / 12:Nat):Int)) ((j % 12:Nat):Int)=some n/\BD ((j:Nat):Int)=some g/\0<=r/\r < n/\n<=31/\g+r=day
 |0,_,_,_,h0,_,_=>by omega
 |d+1,k,f,hk,_,hf,hfd=>by
  obtain⟨n,f',h1,h2,h3,h4,h5,h6,h7,h8⟩:=cB (k:=k) (by omega);rw[hf] at h2;cases h2;by_cases hlt:n<=day - f
  have hk1:k+1 < 1200:=by by_cases h:k+1=1200;have:=h7 h;omega;omega
  obtain⟨j,n',g,r,a1,a2,a3⟩:=qS day hd d (k+1) (f+n) (by omega) (by omega) (h6 hk1) (by omega);refine⟨j,n',g,r,a1,?_,a3⟩;rw[CT];dsimp only
  have e:HY (day - f) (2000+((k / 12:Nat):Int)) (((k % 12:Nat):Int)+1)=some (.nx (day - (f+n),2000+(((k+1) / 12:Nat):Int),(((k+1) % 12:Nat):Int)+1)):=by
   unfold HY;rw[h3,TC,FY,mbY hlt,cond_true,BS (by omega),Ii (by omega)];by_cases h12:k % 12=11;rw[F5 (by omega),cond_true,BS (by omega)];rw[show(k+1) / 12=k / 12+1 by omega,show(k+1) % 12=0 by omega];exact congrArg (λx=>some (Lp.nx x)) (Prod.ext (by dsimp only;omega) (Prod.ext (by first | rfl | (dsimp only;omega)) (by first | rfl | (dsimp only;omega))))
   rw[EA (by omega),cond_false];rw[show(k+1) / 12=k / 12 by omega,show(k+1) % 12=k % 12+1 by omega];exact congrArg (λx=>some (Lp.nx x)) (Prod.ext (by dsimp only;omega) (Prod.ext (by first | rfl | (dsimp only;omega)) (by first | rfl | (dsimp only;omega))))
  rw[e];exact a2;refine⟨k,n,f,day - f,by omega,?_,h1,hf,by omega,by omega,h4.2,by omega⟩;rw[CT];dsimp only;unfold HY;rw[h3,TC,FY,yP hlt,cond_false];rfl
def aAO:((bcB 100).all λi=>decide ((uY [(w8 (Ba 48 (L7 ((i:Nat):Int) 10))),(w8 (Ba 48 (KS ((i:Nat):Int) 10)))]).data.toList=[RL (i / 10),RL (i % 10)]))=true:=by kernel_rfl
def oZ{i:Nat}(h:i < 100):IQ ((i:Nat):Int)=some ⟨[RL (i / 10),RL (i % 10)].toArray⟩:=by have:=of_decide_eq_true (bcC.1 aAO i (bcZ.2 h));rw[IQ];congr 1;apply ByteArray.ext;apply bbW;exact this
def avF(y m d:Nat):List UInt8:=[RL 2,RL 0,RL (y / 10),RL (y % 10),45,RL (m / 10),RL (m % 10),45,RL (d / 10),RL (d % 10)]
def cQ:∀(d j:Nat)(n f:Int),j+d < 1200->0 < d->AG (2000+((j / 12:Nat):Int)) ((j % 12:Nat):Int)=some n->BD ((j:Nat):Int)=some f->∃f',BD (((j+d:Nat)):Int)=some f'/\f+n<=f'
 |0,_,_,_,_,h,_,_=>by omega
 |d+1,j,n,f,hj,_,hn,hf=>by
  obtain⟨n',f',h1,h2,h3,h4,h5,h6,h7,h8⟩:=cB (k:=j) (by omega);rw[hn] at h1;cases h1;rw[hf] at h2;cases h2;have e:=h6 (by omega);by_cases h0:d=0;subst h0;exact⟨_,e,by omega⟩;obtain⟨n2,f2,g1,g2,g3,g4,g5,g6,g7,g8⟩:=cB (k:=j+1) (by omega);rw[e] at g2;cases g2;obtain⟨f',a1,a2⟩:=cQ d (j+1) n2 (f+n) (by omega) (by omega) g1 e;exact⟨f',by rw[show j+(d+1)=j+1+d by omega];exact a1,by omega⟩
def sN(day:Int)(j:Nat)(r:Int):Prop:=∃n g:Int,j < 1200/\AG (2000+((j / 12:Nat):Int)) ((j % 12:Nat):Int)=some n/\BD ((j:Nat):Int)=some g/\0<=r/\r < n/\n<=31/\g+r=day
def aoY{day:Int}{j k:Nat}{r s:Int}(h:sN day j r)(h2:sN day k s):¬j < k:=λhlt=>by
 obtain⟨n,g,a1,a2,a3,a4,a5,a6,a7⟩:=h;obtain⟨m,f,b1,b2,b3,b4,b5,b6,b7⟩:=h2;obtain⟨f',c1,c2⟩:=cQ (k - j) j n g (by omega) (by omega) a2 a3;rw[show j+(k - j)=k by omega,b3] at c1;cases c1;omega
def acM{day:Int}{j k:Nat}{r s:Int}(h:sN day j r)(h2:sN day k s):j=k/\r=s:=by
 have h3:=aoY h h2;have h4:=aoY h2 h;obtain rfl:j=k:=by omega
 obtain⟨n,g,a1,a2,a3,a4,a5,a6,a7⟩:=h;obtain⟨m,f,b1,b2,b3,b4,b5,b6,b7⟩:=h2;rw[a3] at b3;cases b3;exact⟨rfl,by omega⟩
def yrR(y z:Int):Nat->Nat->Int->Option (Lp (Int×Int×Int) (Int×Int×Int) (Int×Int×Int))
 |0,_,r=>some (.nx (Ba y 1,r,z))
 |c+1,m,r=>(AG y (m:Int)).bind λn=>cond (CV r n) (some (.ex (y,r,(m:Int)))) (yrR y z c (m+1) (A2 r n))
def aFV(y z r:Int):Gs y r z=yrR y z 12 0 r:=by unfold Gs;rfl
def aTP(day:Int)(hd:day<=36524)(z:Int)(Y:Nat)(hY:Y < 100):∀(c m:Nat)(f:Int),m+c=12->(0 < c->BD ((12*Y+m:Nat):Int)=some f)->(c=0->12*Y+m < 1200->BD ((12*Y+m:Nat):Int)=some f)->(c=0->12*Y+m=1200->f=36525)->0<=f->f<=day ->
 (∃(j:Nat)(r:Int),sN day j r/\yrR (2000+(Y:Int)) z c m (day - f)=some (.ex (2000+((j / 12:Nat):Int),r,((j % 12:Nat):Int)))) \/
 (∃f',12*(Y+1) < 1200/\BD ((12*(Y+1):Nat):Int)=some f'/\0<=f'/\f'<=day/\yrR (2000+(Y:Int)) z c m (day - f)=some (.nx (2000+((Y+1:Nat):Int),day - f',z)))
 |0,m,f,hm,_,h1,h2,h3,h4=>by
  refine .inr ⟨f,?_⟩
  have hlt:12*(Y+1) < 1200:=by by_cases h:12*Y+m=1200;have:=h2 rfl h;omega;omega
  refine⟨hlt,?_,h3,h4,?_⟩;have:=h1 rfl (by omega);rw[show 12*(Y+1)=12*Y+m by omega];exact this;rw[yrR,BS (by omega),show(2000:Int)+(Y:Int)+1=2000+((Y+1:Nat):Int) by omega]
 |c+1,m,f,hm,h0,_,_,h3,h4=>by
  have hf:=h0 (by omega);obtain⟨n,f',a1,a2,a3,a4,a5,a6,a7,a8⟩:=cB (k:=12*Y+m) (by omega);rw[hf] at a2;cases a2;have ey:(12*Y+m) / 12=Y:=by omega
  have em:(12*Y+m) % 12=m:=by omega
  have a1':=a1;rw[ey,em] at a1;rw[yrR,a1,TC];by_cases hlt:day - f < n;refine .inl ⟨12*Y+m,day - f,⟨n,f,by omega,a1',hf,by omega,hlt,a4.2,by omega⟩,?_⟩;rw[F5 hlt,cond_true,ey,em];rw[EA (by omega),cond_false,Ii (by omega),show day - f - n=day - (f+n) by omega];refine aTP day hd z Y hY c (m+1) (f+n) (by omega) (λhc=>?_) (λhc hk=>?_) (λhc hk=>?_) (by omega) (by omega);exact a6 (by omega);exact a6 (by omega);exact a7 (by omega)
def aFW(day:Int)(hd:day<=36524)(z:Int):∀(d Y:Nat)(f:Int),Y+d=100->0 < d->BD ((12*Y:Nat):Int)=some f->0<=f->f<=day ->
 ∃(j:Nat)(r:Int),sN day j r/\CT (λx=>Gs x.1 x.2.1 x.2.2) d (2000+(Y:Int),day - f,z)=some (.inl (2000+((j / 12:Nat):Int),r,((j % 12:Nat):Int)))
 |0,_,_,_,h,_,_,_=>by omega
 |d+1,Y,f,hY,_,hf,h0,hfd=>by
  rcases aTP day hd z Y (by omega) 12 0 f (by omega) (λ_=>hf) (λh=>by omega) (λh=>by omega) h0 hfd with ⟨j,r,a1,a2⟩ | ⟨f',a1,a2,a3,a4,a5⟩
  refine⟨j,r,a1,?_⟩;rw[CT];dsimp only;rw[aFV,a2];rfl;obtain⟨j,r,b1,b2⟩:=aFW day hd z d (Y+1) f' (by omega) (by omega) a2 a3 a4;refine⟨j,r,b1,?_⟩;rw[CT];dsimp only;rw[aFV,a5];exact b2
def avE:((bcB 25).all λc=>decide (BD ((48*c:Nat):Int)=some ((1461*c:Nat):Int)))=true:=by kernel_rfl
def auX{day:Int}(h:0<=day/\day<=36524):∃(j:Nat)(r:Int),sN day j r/\KU day=some (2000+((j / 12:Nat):Int),((j % 12:Nat):Int)+1,r+1):=by
 obtain⟨u,rfl⟩:=bcD h.1;have hc:=of_decide_eq_true (bcC.1 avE (u / 1461) (bcZ.2 (by omega)))
 have eq:L7 (u:Int) 1461=((u / 1461:Nat):Int):=by unfold L7;have e:((u:Nat):Int).tdiv 1461=((u / 1461:Nat):Int):=(Int.ofNat_tdiv u 1461).symm;have h7:=L8 (n:=((u / 1461:Nat):Int)) (by omega);rw[KR] at h7;rw[e];exact h7
 have er:KS (u:Int) 1461=((u % 1461:Nat):Int):=(Int.ofNat_tmod u 1461).symm;obtain⟨j,r,a1,a2⟩:=aFW (u:Int) h.2 0 (100 - 4*(u / 1461)) (4*(u / 1461)) ((1461*(u / 1461):Nat):Int) (by omega) (by omega) (by rw[show 12*(4*(u / 1461))=48*(u / 1461) by omega];exact hc) (by omega) (by omega);refine⟨j,r,a1,?_⟩;obtain⟨n,g,b1,b2,b3,b4,b5,b6,b7⟩:=a1
 have hv:Er (u:Int)=some true:=by unfold Er;rw[FY,FY,B9,B9,Aq h.1,Aq h.2]
 have e1:IT (λx=>Gs x.1 x.2.1 x.2.2) (2000+((4*(u / 1461):Nat):Int),((u % 1461:Nat):Int),0)=some (.inl (2000+((j / 12:Nat):Int),r,((j % 12:Nat):Int))):=D0 (n:=100 - 4*(u / 1461)) (by
  rw[<- a2];congr 3;omega)
 rw[KU,hv,TC,cond_true,eq,er,FU (by omega),BS (by omega),show(2000:Int)+((u / 1461:Nat):Int)*4=2000+((4*(u / 1461):Nat):Int) by omega,e1,TC];dsimp only[GF];rw[BS (by omega),BS (by omega)]
def ayN{day:Int}(h:0<=day/\day<=36524):∃(j:Nat)(r:Int),sN day j r/\Oq day=some (2000+((j / 12:Nat):Int),((j % 12:Nat):Int)+1,r+1):=by obtain⟨n0,f0,b1,b2,b3,b4,b5,b6,b7,b8⟩:=cB (k:=0) (by omega);obtain rfl:=b8 rfl;obtain⟨j,n,g,r,a1,a2,a3,a4,a5,a6,a7,a8⟩:=qS day h.2 1200 0 0 (by omega) (by omega) b2 h.1;refine⟨j,r,⟨n,g,a1,a3,a4,a5,a6,a7,a8⟩,?_⟩;rw[Oq,EA (by omega),cond_false,EA (by omega),cond_false];have e:IT (λx=>HY x.1 x.2.1 x.2.2) (day,2000,1)=some (.inl (r,2000+((j / 12:Nat):Int),((j % 12:Nat):Int)+1)):=D0 (by rw[Int.sub_zero] at a2;exact a2);rw[e,TC];dsimp only[GF];rw[BS (by omega)]
def aNE:((bcB 100).all λy=>decide (Ql (2000+y)=[RL 2,RL 0,RL (y / 10),RL (y % 10)]))=true:=by kernel_rfl
def akP{i:Nat}(h:i < 100):Ij ((i:Nat):Int)=some ⟨[RL (i / 10),RL (i % 10)].toArray⟩:=by have k30:(Yp).data.toList=[48]:=rfl;unfold Ij;rw[TG (by omega)];unfold dP;rw[aUW];by_cases h1:i < 10;rw[F5 (by omega),cond_true,Ia h1,TC,AZ (by rw[k30,M9];simp)];refine congrArg some (Co ?_);rw[Dd,k30,M9,M9,show i / 10=0 by omega,show i % 10=i by omega];rfl;rw[EA (by omega),cond_false,LD h1,Ia (by omega),TC];rfl
def aCO{day:Int}(h:0<=day/\day<=36524):∃w,Ft day=some ⟨w.toArray⟩/\Ec day=some ⟨w.toArray⟩/\aEL (5,w,0)/\w.length=10/\∃(j:Nat)(r:Nat),sN day j (r:Int)/\w=avF (j / 12) (j % 12+1) (r+1):=by
 obtain⟨j,r,a1,a2⟩:=ayN h;obtain⟨j',r',b1,b2⟩:=auX h;obtain⟨rfl,rfl⟩:=acM a1 b1;have a1':=a1;obtain⟨n,g,c1,c2,c3,c4,c5,c6,c7⟩:=a1;obtain⟨m,rfl⟩:=bcD c4;have hy:j / 12 < 100:=by omega
 have hmo:j % 12+1 < 100:=by omega
 have hmd:m+1 < 100:=by omega
 have kd:(Em).data.toList=[45]:=rfl;refine⟨avF (j / 12) (j % 12+1) (m+1),?_,?_,?_,rfl,j,m,a1',rfl⟩
 ·have eq1:L7 (2000+((j / 12:Nat):Int)) 100=((20:Nat):Int):=by
   rw[zF (by omega)];omega
  have eq2:KS (2000+((j / 12:Nat):Int)) 100=((j / 12:Nat):Int):=by rw[aqP (by omega)];omega
  rw[Ft,a2,TC];dsimp only;rw[Kx (by omega),cond_false,eq1,eq2,show((m:Nat):Int)+1=((m+1:Nat):Int) by omega,show((j % 12:Nat):Int)+1=((j % 12+1:Nat):Int) by omega,oZ (i:=20) (by omega),oZ hy,oZ hmo,oZ hmd];simp only[TC];simp (disch:=((try simp only[Dd,cZ,amN,amO,M9,kd]);omega)) only [AZ]
  refine congrArg some (ByteArray.ext (bbW ?_));simp only[Dd,M9,kd];rfl
 ·have hv:Er day=some true:=by
   unfold Er;rw[FY,FY,B9,B9,Aq h.1,Aq h.2]
  have hyr:=of_decide_eq_true (bcC.1 aNE (j / 12) (bcZ.2 hy));rw[Ec,hv,TC,cond_true,b2,TC];dsimp only;rw[show(2000:Int)+((j / 12:Nat):Int)=((2000+j / 12:Nat):Int) by omega,TG (by omega),show((m:Nat):Int)+1=((m+1:Nat):Int) by omega,show((j % 12:Nat):Int)+1=((j % 12+1:Nat):Int) by omega,akP hmo,akP hmd];unfold dP;rw[aUW,hyr];simp only[TC];simp (disch:=((try simp only[Dd,cZ,amN,amO,M9,kd]);omega)) only [AZ]
  refine congrArg some (ByteArray.ext (bbW ?_));simp only[Dd,M9,kd];rfl
 refine .inr (.inr (.inr (.inr (.inl ⟨rfl,rfl,?_⟩))));rw[akR];refine⟨by simp[avF],λi hi=>?_⟩;have c:=λ{i:Nat}(h:i < 10)=>(qV h).2.2.1;rcases(show i=0\/i=1\/i=2\/i=3\/i=4\/i=5\/i=6\/i=7\/i=8\/i=9 by omega) with rfl | rfl | rfl | rfl | rfl | rfl | rfl | rfl | rfl | rfl
 exact c (i:=2) (by omega);exact c (i:=0) (by omega);exact c (i:=j / 12 / 10) (by omega);exact c (i:=j / 12 % 10) (by omega);rfl;exact c (i:=(j % 12+1) / 10) (by omega);exact c (i:=(j % 12+1) % 10) (by omega);rfl;exact c (i:=(m+1) / 10) (by omega);exact c (i:=(m+1) % 10) (by omega)
def uK(s:ByteArray):Nat:=if s=Ey\/s=CW\/s=Dw then 1 else 2
def fK(n:Int):ByteArray:=if n=1 then WO else if n=2 then PX else if n=3 then Tz else Zc
def Vz(d:Int):List UInt8:=((Ft d).getD VE).data.toList
def kwS(k:Int):ByteArray:=if k=7 then MW else if k=8 then Lz else Vl
def nlG:List Nd->List UInt8
 |[]=>[10]
 |_::_=>[10,32,32]
def clT:List Nd->List Ti
 |[]=>[T1 6 [125] [10]]
 |c::l=>T1 1 ((kwS c.kind).data.toList) [32]::(S1 (c.kids.map tP)++T1 6 [59] (nlG l)::clT l)
def kD(n h:Nd):List Ti :=
 [T1 1 (E4.data.toList) [32],T1 3 (dP n.n) [32],T1 1 (iI.data.toList) [32],T1 1 (n.name.data.toList) [32],T1 1 (Xs.data.toList) [32],T1 3 (dP h.n) [32],T1 1 (WT.data.toList) [32],T1 5 (Vz h.fr) [32]]++(if h.to=36525 then [] else [T1 1 (toS.data.toList) [32],T1 5 (Vz h.to) [32]])++[T1 1 (O0.data.toList) [32],T1 5 (Vz h.known) [32]]
def wR(n:Nd):List Ti:=match n.kids with|h::cs=>kD n h++T1 6 [123] (nlG cs)::clT cs|[]=>[]
def JH(n:Nd):List Ti :=
 if n.kind=2 then [T1 1 (PZ.data.toList) [32],T1 1 (n.name.data.toList) [32],T1 6 [58] [32],T1 (uK n.unit) (n.unit.data.toList) [],T1 6 [59] [10]]
 else if n.kind=3 then [T1 1 (LJ.data.toList) [32],T1 1 (n.name.data.toList) [32],T1 6 [58] [32],T1 (uK n.unit) (n.unit.data.toList) [32],T1 1 ((fK n.n).data.toList) [],T1 6 [59] [10]]
 else wR n
def afX(n:Nd):List Ti:=n.kids.flatMap JH
def KI:DO.data.toList=PZ.data.toList++[32]/\CC.data.toList=LJ.data.toList++[32]/\EL.data.toList=[59,10]/\AE.data.toList=E4.data.toList++[32]/\BK.data.toList=32::(iI.data.toList++[32])/\BI.data.toList=32::(Xs.data.toList++[32])/\B2.data.toList=32::(WT.data.toList++[32])/\GK.data.toList=32::(toS.data.toList++[32]) /\
 Bt.data.toList=32::(O0.data.toList++[32])/\ID.data.toList=[32,123,10]/\NO.data.toList=[125,10]/\Gv.data.toList=[32,32]++Vl.data.toList++[32]/\Ev.data.toList=[32,32]++MW.data.toList++[32]/\Eu.data.toList=[32,32]++Lz.data.toList++[32]:=⟨rfl,rfl,rfl,rfl,rfl,rfl,rfl,rfl,rfl,rfl,rfl,rfl,rfl,rfl⟩
def LI:(PZ.data.toList).length=4/\(LJ.data.toList).length=4/\(E4.data.toList).length=7/\(iI.data.toList).length=3/\(Xs.data.toList).length=4/\(WT.data.toList).length=4/\(toS.data.toList).length=2/\(O0.data.toList).length=5/\(Vl.data.toList).length=4/\(MW.data.toList).length=6/\(Lz.data.toList).length=6:=⟨rfl,rfl,rfl,rfl,rfl,rfl,rfl,rfl,rfl,rfl,rfl⟩
def WM{d:Int}(h:X5 d):Ft d=some (hP (Vz d))/\Ec d=some (hP (Vz d))/\(Vz d).length=10/\aEL (5,Vz d,0):=by
 obtain⟨w,a1,a2,a3,a4,_⟩:=aCO (day:=d) h;have e:Vz d=w:=by unfold Vz;rw[a1];rfl
 rw[e];exact⟨a1,a2,a4,a3⟩
def aqY(n:Int):JT n=some (fK n)/\Sl n=some (fK n):=by
 have:JT n=some (fK n):=by unfold JT fK;simp only[BT,B9];by_cases h1:n=1;rw[Aq h1,if_pos h1];rw[Ar h1,if_neg h1];by_cases h2:n=2;rw[Aq h2,if_pos h2];rw[Ar h2,if_neg h2];by_cases h3:n=3;rw[Aq h3,if_pos h3];rw[Ar h3,if_neg h3]
 exact⟨this,this⟩
def fL(n:Int):((fK n).data.toList).length<=6:=by unfold fK;split;decide;split;decide;split<;>decide
def OJ{u:ByteArray}(h:KP u):(u.data.toList).length<=7:=by
 rcases h with h | h | h | h
 rw[h];decide;rw[h];decide;rw[h];decide;have:=h.1;omega
def cE{α ρ:Type}{F:α->List UInt8}{body:Nat->α->ByteArray->Option (Lp ByteArray ByteArray ρ)}:∀(l:List α)(i:Nat)(s:ByteArray)(W:Nat),(s.data.toList).length+l.length*W<=1000000000000->(∀a∈l,(F a).length<=W) ->
 (∀a∈l,∀(i:Nat)(s:ByteArray),(s.data.toList).length<=1000000000000->∃s',body i a s=some (.nx s')/\s'.data.toList=s.data.toList++F a) ->
 ∃s',Bu (ρ:=ρ) body (λx=>x) l i s=some (.inl s')/\s'.data.toList=s.data.toList++l.flatMap F
 |[],i,s,W,_,_,_=>⟨s,rfl,by simp⟩
 |a::l,i,s,W,hs,hw,hb=>by
  have ha:=hw a (by simp);rw[amN,bdL,Nat.one_mul] at hs;obtain⟨s1,h1,h2⟩:=hb a (by simp) i s (by omega);obtain⟨s2,h3,h4⟩:=cE l (i+1) s1 W (by rw[h2,cZ];omega) (λb Qp=>hw b (by simp[Qp])) (λb Qp=>hb b (by simp[Qp]));refine⟨s2,?_,?_⟩;rw[Bu,h1];exact h3;rw[h4,h2];simp
def X3{α ρ:Type}{F:α->List UInt8}{W:α->Nat}{B:Nat}{body:Nat->α->List UInt8->Option (Lp (List UInt8) (List UInt8) ρ)}:∀(l:List α)(i:Nat)(t:List UInt8),t.length+(l.map W).sum<=B->(∀a∈l,(F a).length<=W a) ->
 (∀a∈l,∀(i:Nat)(t:List UInt8),t.length+W a<=B->body i a t=some (.nx (t++F a))) ->
 Bu (ρ:=ρ) body (λx=>x) l i t=some (.inl (t++l.flatMap F))
 |[],i,t,_,_,_=>by rw[Bu];simp
 |a::l,i,t,hs,hw,hb=>by
  have ha:=hw a (by simp);rw[bcH,bgZ] at hs;rw[Bu,hb a (by simp) i t (by omega)];have:=X3 l (i+1) (t++F a) (by rw[cZ];omega) (λb Qp=>hw b (by simp[Qp])) (λb Qp=>hb b (by simp[Qp]));show Bu _ _ l (i+1) (t++F a)=_;rw[this];simp
def wZ(c:Nd):List UInt8:=[32,32]++(kwS c.kind).data.toList++[32]++Ao (S1 (c.kids.map tP))++[59,10]
def aCL:∀l:List Nd,nlG l++Ao (clT l)=[10]++l.flatMap wZ++[125,10]
 |[]=>by simp[nlG,clT,Ao]
 |c::l=>by
  have:=aCL l;rw[clT,Ao,CP,Ao];simp only[T1,beJ];rw[show [59]++(nlG l++Ao (clT l))=[59]++([10]++l.flatMap wZ++[125,10]) by rw[this]];simp[nlG,wZ]
def aJS(k:Int):((kwS k).data.toList).length<=6:=by unfold kwS;split;decide;split<;>decide
def dS{c:Nd}(hx:∀k∈c.kids,He k):(Ao (S1 (c.kids.map tP))).length<=5000*H9 c.kids:=by
 have hs:=Sr (f:=tP) (W:=λk=>5000*Ds k) c.kids λk OV=>by have:=(Kk _ k (aHT _) (hx k OV)).2;omega
 rwa[Ua] at hs
def mT{c:Nd}(hx:∀k∈c.kids,He k):(wZ c).length+4900<=5000*Ds c:=by have:=dS hx;have:=aJS c.kind;have:=CS c;unfold wZ;simp only[cZ,amN,amO];omega
def qJ{c:Nd}(h:Cn c):0 < c.kids.length/\∀k∈c.kids,He k:=by by_cases h7:c.kind=7;have:=h.2.1 h7;exact⟨this.1,λk hk=>(this.2 k hk).1⟩;have:=h.2.2 h7;exact⟨by omega,this.2⟩
def aYM{c:Nd}{p:Pb}(h:Cn c)(hk:6<=c.kind/\c.kind<=8)(hz:Ds c<=2000)(hp:p.levels=Ic)(ht:p.text.length+5000*Ds c<=40000000):CH p c=some ((),p.text++wZ c):=by
 obtain⟨h0,hx⟩:=qJ h;have hsz:=CS c;have nK:=Kj c.kids;have hs:=dS hx;have hkn:c.kids≠[]:=by intro e;rw[e] at h0;simp at h0
 have key:∀q:ByteArray,q.data.toList≠[]->(q.data.toList).length<=9->(B6 c.kids.length (Bu (λi y x=>BU p i y x.1 x.2) (λx=>x.2) (c.kids.drop 0) 0 (q,p.text))).bind (GF (λ(w:List UInt8)=>(Ab (⟨w,p.levels⟩:Pb) EL).bind λ(ya,yb)=>some ((),yb)) (λv=>some v)) =
  some ((),p.text++(q.data.toList++Ao (S1 (c.kids.map tP))++[59,10])):=λq q0 q9=>by
  have Y8:=UA (ρ:=Unit×List UInt8) (F:=tP) (B:=40000000) (W:=λk=>5000*Ds k) (body:=λi y a b=>BU p i y a b) c.kids 0 q p.text (by
   rw[Ua];omega) q0 (λk OV=>by have:=(Kk _ k (aHT _) (hx k OV)).2;omega) (λk OV i sep t h1 h2=>by
   have hkz:=Fx OV;unfold BU;rw[Lb h1 (by show t.length+_<=_;omega),TC];dsimp only
   have:DN (⟨t++sep.data.toList,p.levels⟩:Pb) k=some ((),t++sep.data.toList++Ao (tP k)):=NA (2*Ds k) λf hf=>
    aDP (Ds k) k (hx k OV) (aHT _) (by omega) f hf ⟨_,p.levels⟩ (by exact hp) (by simp only[cZ];omega)
   rw[this];simp only[TC];simp)
  rw[if_neg hkn] at Y8;rw[AZ (by omega),bbQ,Y8,TC];dsimp only[GF];rw[Lb (by decide) (by simp only[KI,cZ,amN,amO];omega)];simp only[KI,TC];simp
 unfold CH wZ kwS;simp only[BT,B9];by_cases h7:c.kind=7;rw[Aq h7,if_pos h7];exact(key _ (by decide) (by decide)).trans (by rw[KI.2.2.2.2.2.2.2.2.2.2.2.2.1]);rw[Ar h7,if_neg h7];by_cases h8:c.kind=8;rw[Aq h8,if_pos h8];exact(key _ (by decide) (by decide)).trans (by rw[KI.2.2.2.2.2.2.2.2.2.2.2.2.2]);rw[Ar h8,if_neg h8];exact(key _ (by decide) (by decide)).trans (by rw[KI.2.2.2.2.2.2.2.2.2.2.2.1])
def ayW{l:List Nd}(hx:∀k∈l,He k)(hz:H9 l<=2000):Kh l=some (hP (Ao (S1 (l.map tP)))):=NA (2*H9 l+1) λq hq=>by
 obtain⟨f,rfl⟩:∃k,q=k+1:=⟨q - 1,by omega⟩;have hll:=Kj l
 have hlen:∀k∈l,(Ao (tP k)).length<=10000000:=λk hk=>by
  have:=Fx hk;have:=(Kk _ k (aHT _) (hx k hk)).2;omega
 obtain⟨s',e1,e2⟩:=XD (ρ:=ByteArray) (f:=tP) (body:=λi y x=>KM (C4 f) (Cy f) (C5 f) i y x) l 0 VE 10000000 (by
  have:l.length*(10000000+2)<=2000*(10000000+2):=bdE _ (by omega);have h0:(VE.data.toList).length=0:=rfl;omega) (λk OV=>hlen k OV) (λk OV i s hs=>by
  have h1:=hlen k OV;have hkz:=Fx OV;unfold KM;rw[aDW (Ds k) k (hx k OV) (aHT _) (by omega) f (by omega),HV,B9,TC];by_cases h0:i=0;rw[if_pos h0,Ar (by omega),TC,AZ (by simp only[ES];omega)];exact⟨_,rfl,by simp only[BY,ES]⟩;rw[if_neg h0,Aq (by omega),AZ (by simp only[KK,amN,amO];omega),AZ (by simp only[BY,ES,KK,cZ,amN,amO];omega)];exact⟨_,rfl,by simp only[BY,ES,KK];simp⟩)
 rw[C5,Oz,AZ (by omega),bbQ,e1,TC];rw[if_pos rfl] at e2;exact congrArg some (Co (by rw[M9];exact e2))
def aRY{c:Nd}(h:Cn c)(hk:6<=c.kind/\c.kind<=8)(hz:Ds c<=2000)(i:Nat)(s:ByteArray)(hs:(s.data.toList).length<=1000000000000):∃s',Jh i c s=some (.nx s')/\s'.data.toList=s.data.toList++wZ c:=by
 obtain⟨h0,hx⟩:=qJ h;have hsz:=CS c;have hl:=dS hx;unfold Jh wZ kwS;rw[ayW hx (by omega)];simp only[BT,B9,TC];by_cases h6:c.kind=6
 ·rw[Aq h6,if_neg (by omega),if_neg (by omega)]
  simp (disch:=((try simp only[BY,ES,KI,LI,cZ,amN,amO]);omega)) only [AZ]
  exact⟨_,rfl,by simp only[BY,ES,KI];simp⟩
 rw[Ar h6];by_cases h7:c.kind=7
 ·rw[Aq h7,if_pos h7]
  simp (disch:=((try simp only[BY,ES,KI,LI,cZ,amN,amO]);omega)) only [AZ]
  exact⟨_,rfl,by simp only[BY,ES,KI];simp⟩
 ·rw[Ar h7,if_neg h7,if_pos (by omega)]
  simp (disch:=((try simp only[BY,ES,KI,LI,cZ,amN,amO]);omega)) only [AZ]
  exact⟨_,rfl,by simp only[BY,ES,KI];simp⟩
def azV{h:Nd}{cs:List Nd}:U3 (h::cs) 1 (((h::cs).length:Nat):Int)=some cs:=by unfold U3;rw[if_pos ⟨by omega,by simp only[amN];omega,by omega⟩];simp
def mV{cs:List Nd}(h:∀k∈cs,Cn k):(cs.flatMap wZ).length<=5000*H9 cs:=by
 induction cs with
 |nil=>simp
 |cons c cs ih=>
  have h1:=mT (qJ (h c (by simp))).2;have h2:=ih λk hk=>h k (by simp[hk]);rw[bdP,cZ,H9];omega
def nJ(n h:Nd):Ao (kD n h)=E4.data.toList++[32]++dP n.n++(32::(iI.data.toList++[32]))++n.name.data.toList++(32::(Xs.data.toList++[32]))++dP h.n++(32::(WT.data.toList++[32]))++Vz h.fr++(if h.to=36525 then [] else 32::(toS.data.toList++[32])++Vz h.to)++(32::(O0.data.toList++[32]))++Vz h.known++[32]:=by unfold kD;by_cases h0:h.to=36525;rw[if_pos h0,if_pos h0];simp[Ao];rw[if_neg h0,if_neg h0];simp[Ao]
def ajT(n h:Nd)(cs:List Nd)(hk:n.kids=h::cs):Ao (wR n)=Ao (kD n h)++([123,10]++cs.flatMap wZ++[125,10]):=by unfold wR;rw[hk];show Ao (kD n h++T1 6 [123] (nlG cs)::clT cs)=_;rw[CP,Ao];simp only[T1];rw[aCL];simp
structure aTV(n h:Nd)(cs:List Nd):Prop where
 kids:n.kids=h::cs
 num:1<=n.n/\n.n<=1000000
 name:(n.name.data.toList).length<=16
 aqM:0<=h.n/\h.n<=1000000
 fr:X5 h.fr
 to:h.to=36525\/X5 h.to
 known:X5 h.known
 cl:∀k∈cs,Cn k/\6<=k.kind/\k.kind<=8
def mM{n:Nd}(h:ajS n):∃x cs,aTV n x cs:=by obtain⟨h1,h2,_,x,cs,h3,h4,_,_,h5,h6⟩:=h;obtain⟨_,g1,_,g2,g3,g4,_⟩:=h5;refine⟨x,cs,h3,h1,h2.1.2,g1,g2,?_,g4,λk hk=>⟨h6 k hk,h4 k hk⟩⟩;unfold X5 at *;omega
def OF{n:Nd}(h:GD n):(Ao (JH n)).length<=5000*Ds n:=by
 have hsz:=CS n;rcases aP h with k | k | k
 have hl:=OJ ((it2 k).1 h).2.1;have hn:(n.name.data.toList).length<=16:=((it2 k).1 h).1.1.2;unfold JH;rw[if_pos k];simp only[Ao,cZ,amN,amO,LI];omega;have hl:=OJ ((it3 k).1 h).2.1;have hn:(n.name.data.toList).length<=16:=((it3 k).1 h).1.1.2;have hr:=fL n.n;unfold JH;rw[if_neg (by omega),if_pos k];simp only[Ao,cZ,amN,amO,LI];omega;obtain⟨x,cs,q⟩:=mM ((it4 k).1 h);have hc:=mV λk hk=>(q.cl k hk).1;have i1:=GR (n:=n.n) (by have:=q.num;omega);have i2:=GR (n:=x.n) (by have:=q.aqM;omega);have d1:=(WM q.fr).2.2.1;have d3:=(WM q.known).2.2.1;have hn:=q.name;unfold JH;rw[if_neg (by omega),if_neg (by omega),ajT n x cs q.kids,nJ];have e:=q.kids;rw[e,H9] at hsz;have:Ds x=1+H9 x.kids:=CS x;rcases q.to with ht | ht
 rw[if_pos ht];simp only[cZ,amN,amO,LI];omega;rw[if_neg (by have:=ht.2;omega)];have d2:=(WM ht).2.2.1;simp only[cZ,amN,amO,LI];omega
def prI{n:Nd}{p:Pb}(h:GD n)(hz:Ds n<=2000)(hp:p.levels=Ic)(ht:p.text.length+5000*Ds n<=30000000):Gm p n=some ((),p.text++Ao (JH n)):=by
 have hsz:=CS n;have hil:=OF h;unfold Gm;simp only[BT,B9];rcases aP h with k | k | k
 ·have hl:=OJ ((it2 k).1 h).2.1
  have hn:(n.name.data.toList).length<=16:=((it2 k).1 h).1.1.2;unfold JH;rw[Aq k,if_pos k];simp (disch:=((try simp only[BY,ES,KI,KK,LI,cZ,amN,amO]);omega)) only [AZ]
  rw[Lb (by simp only[BY,KI];simp) (by simp only[BY,ES,KI,KK,LI,cZ,amN,amO];omega)];simp only[BY,ES,KI,KK,TC];simp[Ao]
 ·have hl:=OJ ((it3 k).1 h).2.1
  have hn:(n.name.data.toList).length<=16:=((it3 k).1 h).1.1.2;have hr:=fL n.n;unfold JH;rw[Ar (by omega),Aq k,if_neg (by omega),if_pos k,(aqY n.n).1,TC];simp (disch:=((try simp only[BY,ES,KI,KK,LI,cZ,amN,amO]);omega)) only [AZ]
  rw[Lb (by simp only[BY,KI];simp) (by simp only[BY,ES,KI,KK,LI,cZ,amN,amO];omega)];simp only[BY,ES,KI,KK,TC];simp[Ao]
 ·obtain⟨x,cs,q⟩:=mM ((it4 k).1 h)
  have Ib:=mV λk hk=>(q.cl k hk).1;have i1:=GR (n:=n.n) (by have:=q.num;omega);have i2:=GR (n:=x.n) (by have:=q.aqM;omega);obtain⟨_,c1,d1,_⟩:=WM q.fr;obtain⟨_,c3,d3,_⟩:=WM q.known;have hn:=q.name;have anM:=q.num;have hrk:=q.aqM;rw[Ar (by omega),Ar (by omega),Aq k];have eT:JH n=wR n:=by unfold JH;rw[if_neg (by omega),if_neg (by omega)]
  rw[eT,ajT n x cs q.kids,nJ,q.kids,azV];rw[q.kids,H9] at hsz;have wC:Ds x=1+H9 x.kids:=CS x;have hcc:=Kj cs;rw[bbH,TC,TG (n:=n.n) (by omega),TG (n:=x.n) (by omega),TC]
  have loop:∀(t:List UInt8) (body:Nat->Nd->List UInt8->Option (Lp (List UInt8) (List UInt8) (Unit×List UInt8))),(∀i y x,body i y x=(CH (⟨x,p.levels⟩:Pb) y).bind λ(a,b)=>some (.nx b))->t.length+5000*H9 cs<=40000000 ->
   (Bu body (λx=>x) (cs.drop 0) 0 t).bind (GF (λ(w:List UInt8)=>(Ab (⟨w,p.levels⟩:Pb) NO).bind λ(ya,yb)=>some ((),yb)) (λv=>some v))=some ((),t++(cs.flatMap wZ++[125,10])):=λt body hb htl=>by
   have:=X3 (ρ:=Unit×List UInt8) (F:=wZ) (W:=λk=>5000*Ds k) (B:=40000000) (body:=body) cs 0 t (by rw[Ua];exact htl) (λc hc=>by have:=mT (qJ (q.cl c hc).1).2;omega) (λc hc i t h2=>by
    have:=Fx hc;rw[hb,aYM (p:=⟨t,p.levels⟩) (q.cl c hc).1 (q.cl c hc).2 (by omega) hp (by exact h2)];rfl)
   rw[bbQ,this,TC];dsimp only[GF];rw[Lb (by decide) (by simp only[KI,cZ,amN,amO];omega)];simp only[KI,TC];simp
  simp (disch:=((try simp only[BY,ES,KI,KK,LI,cZ,amN,amO]);omega)) only [AZ,TC]
  rw[Lb (by simp only[BY,KI];simp) (by simp only[BY,ES,KI,KK,LI,cZ,amN,amO];omega),c1];simp only[TC];rw[AZ (by simp only[ES,KI,LI,cZ,amN,amO];omega),Lb (by simp only[BY,KI];simp) (by simp only[BY,ES,KI,KK,LI,cZ,amN,amO];omega)];simp only[TC,FY,B9];by_cases hto:x.to=36525
  ·rw[Ar (by omega),if_pos hto,c3,TC]
   simp (disch:=((try simp only[BY,ES,KI,KK,LI,cZ,amN,amO]);omega)) only [AZ]
   rw[Lb (by simp only[BY,KI];simp) (by simp only[BY,ES,KI,KK,LI,cZ,amN,amO];omega),TC];dsimp only;refine(loop _ _ (λ_ _ _=>rfl) ?_).trans ?_;simp only[BY,ES,KI,KK,LI,cZ,amN,amO];omega;simp only[BY,ES,KI,KK];simp
  ·have hd:X5 x.to:=by rcases q.to with h | h;exact absurd h hto;exact h
   obtain⟨_,c2,d2,_⟩:=WM hd;rw[Aq hd.2,if_neg hto,c2,TC,AZ (by simp only[ES,KI,LI,cZ,amN,amO];omega),Lb (by simp only[BY,KI];simp) (by simp only[BY,ES,KI,KK,LI,cZ,amN,amO];omega),TC];dsimp only;rw[c3,TC];simp (disch:=((try simp only[BY,ES,KI,KK,LI,cZ,amN,amO]);omega)) only [AZ]
   rw[Lb (by simp only[BY,KI];simp) (by simp only[BY,ES,KI,KK,LI,cZ,amN,amO];omega),TC];dsimp only;refine(loop _ _ (λ_ _ _=>rfl) ?_).trans ?_;simp only[BY,ES,KI,KK,LI,cZ,amN,amO];omega;simp only[BY,ES,KI,KK];simp
def rIt{n:Nd}(h:GD n)(hz:Ds n<=2000):Oy n=some (hP (Ao (JH n))):=by
 have hsz:=CS n;have hil:=OF h;unfold Oy;simp only[BT,B9];rcases aP h with k | k | k
 ·have hl:=OJ ((it2 k).1 h).2.1
  have hn:(n.name.data.toList).length<=16:=((it2 k).1 h).1.1.2;unfold JH;rw[Aq k,if_pos k];simp (disch:=((try simp only[BY,ES,KI,KK,LI,cZ,amN,amO]);omega)) only [AZ]
  exact congrArg some (Co (by rw[M9];simp only[BY,ES,KI,KK,Ao];simp))
 ·have hl:=OJ ((it3 k).1 h).2.1
  have hn:(n.name.data.toList).length<=16:=((it3 k).1 h).1.1.2;have hr:=fL n.n;unfold JH;rw[Ar (by omega),Aq k,if_neg (by omega),if_pos k,(aqY n.n).2,TC];simp (disch:=((try simp only[BY,ES,KI,KK,LI,cZ,amN,amO]);omega)) only [AZ]
  exact congrArg some (Co (by rw[M9];simp only[BY,ES,KI,KK,Ao];simp))
 ·obtain⟨x,cs,q⟩:=mM ((it4 k).1 h)
  have Ib:=mV λk hk=>(q.cl k hk).1;have i1:=GR (n:=n.n) (by have:=q.num;omega);have i2:=GR (n:=x.n) (by have:=q.aqM;omega);obtain⟨c1,_,d1,_⟩:=WM q.fr;obtain⟨c3,_,d3,_⟩:=WM q.known;have hn:=q.name;have anM:=q.num;have hrk:=q.aqM;rw[Ar (by omega),Ar (by omega)];have eT:JH n=wR n:=by unfold JH;rw[if_neg (by omega),if_neg (by omega)]
  rw[eT,ajT n x cs q.kids,nJ,q.kids];rw[q.kids,H9] at hsz;have wC:Ds x=1+H9 x.kids:=CS x;have hcc:=Kj cs;rw[bbH,TC,Kw (by omega),Kw (by omega),c1,c3];simp only[TC]
  have loop:∀s T:ByteArray,(s.data.toList).length<=1000000->T.data.toList=s.data.toList++(cs.flatMap wZ++[125,10]) ->
   (Bu (λi y x=>Jh i y x) (λx=>x) ((x::cs).drop 1) 1 s).bind (GF (λ(s4:ByteArray)=>B6 (s4.data.toList.length+NO.data.toList.length) (some (s4++NO))) (λv=>some v))=some T:=λs T hs hT=>by
   obtain⟨s',e1,e2⟩:=cE (ρ:=ByteArray) (F:=wZ) (body:=λi y x=>Jh i y x) cs 1 s 10000000 (by
    have:cs.length*10000000<=2000*10000000:=bdE _ (by omega);omega) (λc hc=>by have:=mT (qJ (q.cl c hc).1).2;have:=Fx hc;omega) (λc hc i s hs=>aRY (q.cl c hc).1 (q.cl c hc).2 (by have:=Fx hc;omega) i s hs)
   rw[show(x::cs).drop 1=cs from rfl,e1,TC];dsimp only[GF];rw[AZ (by rw[e2];simp only[KI,cZ,amN,amO];omega)];exact congrArg some (Co (by rw[hT,BY,e2,KI.2.2.2.2.2.2.2.2.2.2.1];simp))
  by_cases hto:x.to=36525
  ·rw[Aq hto,if_pos hto]
   simp (disch:=((try simp only[BY,ES,KI,KK,LI,cZ,amN,amO]);omega)) only [AZ]
   refine loop _ _ (by simp only[BY,ES,KI,KK,LI,cZ,amN,amO];omega) ?_;rw[M9];simp only[BY,ES,KI,KK];simp
  ·have hd:X5 x.to:=by rcases q.to with h | h;exact absurd h hto;exact h
   obtain⟨c2,_,d2,_⟩:=WM hd;rw[Ar hto,if_neg hto,c2];simp (disch:=((try simp only[BY,ES,KI,KK,LI,cZ,amN,amO]);omega)) only [AZ,TC]
   refine loop _ _ (by simp only[BY,ES,KI,KK,LI,cZ,amN,amO];omega) ?_;rw[M9];simp only[BY,ES,KI,KK];simp
def rD(t:List UInt8):ByteArray×Int:=if NE (hP t)=0 then (hP t,0) else (VE,2)
open Classical in
def exA(n:Nd):ByteArray×Int:=if n.kind=1\/¬oG n then (VE,1) else rD (Ao (tP n))
open Classical in
def soA(n:Nd):ByteArray×Int:=if n.kind=1/\oG n then rD (Ao (afX n)) else (VE,1)
def aCC{p:Pb}(h:p.text.length<=100000000):CQ p=some (rD p.text):=by
 have hl:Fy (hP p.text)=some (Fj (hP p.text),((NE (hP p.text):Nat):Int),((axA (hP p.text):Nat):Int)):=by rw[<- aqW,adL]
 unfold CQ RT rD;rw[Ge h,TC,hl,TC];dsimp only;rw[BT,B9];by_cases h0:NE (hP p.text)=0;rw[Aq (by omega),if_pos h0];rw[Ar (by omega),if_neg h0]
def aCQ(t:List UInt8):Hb (hP t)=some (rD t):=by unfold Hb rD;rw[adL,TC];dsimp only;rw[BT,B9];by_cases h0:NE (hP t)=0;rw[Aq (by omega),if_pos h0];rw[Ar (by omega),if_neg h0]
def apP{n:Nd}(h:oG n)(k:¬n.kind=1):He n/\Ds n<=2000:=by
 rcases h with ⟨h | h,hz,_⟩
 exact absurd h.1 k;exact⟨h.2,hz⟩
def acS{n:Nd}(h:oG n)(k:n.kind=1):(∀x∈n.kids,GD x)/\Ds n<=2000:=by
 rcases h with ⟨h | h,hz,_⟩
 exact⟨h.2.2,hz⟩;exact absurd k h.1
def acX{n:Nd}(MH:F6 n):IB n=some (exA n):=by
 unfold IB exA;rw[BT,B9];by_cases k1:n.kind=1;rw[Aq k1,if_pos (.inl k1)];rw[Ar k1,aeK MH,TC,B9];by_cases hv:oG n;obtain⟨hx,hz⟩:=apP hv k1;have ht:=(Kk _ n (aHT _) hx).2
 have hp:DN (⟨[],Ic⟩:Pb) n=some ((),[]++Ao (tP n)):=NA (2*Ds n) λf hf=>
  aDP (Ds n) n hx (aHT _) hz f hf ⟨[],Ic⟩ rfl (by simp only[amO];omega)
 rw[Aq hv,if_neg (by simp[k1,hv]),show eI=some Ic from rfl,TC,hp,TC];dsimp only;rw[aCC (by simp only[bcY];omega)];rfl;rw[Ar hv,if_pos (.inr hv)]
def ayT{n:Nd}(MH:F6 n):LZ n=some (exA n):=by unfold LZ exA;rw[aeJ MH,TC,B9];by_cases hv:oG n;rw[Aq hv,BT,B9];by_cases k1:n.kind=1;rw[Aq k1,if_pos (.inl k1)];obtain⟨hx,hz⟩:=apP hv k1;have hp:Sk n=some (hP (Ao (tP n))):=NA (2*Ds n) λf hf=>aDW (Ds n) n hx (aHT _) hz f hf;rw[Ar k1,if_neg (by simp[k1,hv]),hp,TC,aCQ];rfl;rw[Ar hv,if_pos (.inr hv)]
def mZ(l:List Nd):Ao (l.flatMap JH)=l.flatMap λn=>Ao (JH n):=by induction l with|nil=>rfl|cons n l ih=>rw[bdP,CP,ih,bdP]
def avK{l:List Nd}(h:∀x∈l,GD x):(Ao (l.flatMap JH)).length<=5000*H9 l:=by
 rw[mZ]
 induction l with
 |nil=>simp
 |cons c cs ih=>
  have h1:=OF (h c (by simp));have h2:=ih λk hk=>h k (by simp[hk]);rw[bdP,cZ,H9];omega
def aqG{n:Nd}(MH:F6 n):A8 n=some (soA n):=by
 unfold A8 soA;rw[BT,B9];by_cases k1:n.kind=1;rotate_left;rw[Ar k1,if_neg λh=>k1 h.1];rw[Aq k1,aeK MH,TC,B9];by_cases hv:oG n;rotate_left;rw[Ar hv,if_neg λh=>hv h.2];obtain⟨hx,hz⟩:=acS hv k1;have hsz:=CS n;have hl:=Kj n.kids;have hd:=avK hx
 have:=X3 (ρ:=ByteArray×Int) (F:=λn=>Ao (JH n)) (W:=λk=>5000*Ds k) (B:=30000000) (body:=λi y x=>LU Ic i y x) n.kids 0 [] (by rw[Ua];simp only[amO];omega) (λc hc=>OF (hx c hc)) (λc hc i t h2=>by
  have:=Fx hc;unfold LU;rw[prI (p:=⟨t,Ic⟩) (hx c hc) (by omega) rfl (by exact h2)];rfl)
 rw[Aq hv,if_pos ⟨k1,hv⟩,show eI=some Ic from rfl,TC,AZ (by omega),bbQ,this,TC];dsimp only[GF];rw[aCC (by simp only[bcY];rw[<- mZ];omega),TC];dsimp only;rw[bcY,<- mZ];rfl
def aLK{n:Nd}(MH:F6 n):JY n=some (soA n):=by
 unfold JY soA;rw[aeJ MH,TC,B9];by_cases hv:oG n;rotate_left;rw[Ar hv,if_neg λh=>hv h.2];rw[Aq hv,BT,B9];by_cases k1:n.kind=1;rotate_left;rw[Ar k1,if_neg λh=>k1 h.1];obtain⟨hx,hz⟩:=acS hv k1;have hsz:=CS n;have hl:=Kj n.kids
 obtain⟨s',e1,e2⟩:=cE (ρ:=ByteArray×Int) (F:=λn=>Ao (JH n)) (body:=λi y x=>NQ i y x) n.kids 0 VE 10000000 (by
  have:n.kids.length*10000000<=2000*10000000:=bdE _ (by omega);have h0:(VE.data.toList).length=0:=rfl;omega) (λc hc=>by have:=OF (hx c hc);have:=Fx hc;omega) (λc hc i s hs=>by
  have h1:=OF (hx c hc);have h2:=Fx hc;unfold NQ;rw[rIt (hx c hc) (by omega),TC,AZ (by simp only[ES];omega)];exact⟨_,rfl,by simp only[BY,ES]⟩)
 rw[Aq k1,if_pos ⟨k1,hv⟩,AZ (by omega),bbQ,e1,TC];dsimp only[GF];have es:s'=hP (Ao (afX n)):=Co (by rw[e2,M9];unfold afX;rw[mZ];rfl);rw[es,aCQ];rfl
def aOW{n:Nd}(MH:F6 n):M6 n=some (mb (Ds n<=400/\Ob n<=100)):=by have hf:Kd n 100=some (mb (((Ob n:Nat):Int)<=100)):=NA (Ds n) λk hk=>alQ okQ k n 100 MH hk (by omega) (by omega);rw[M6,aOV n 400 MH (by omega),hf];simp only[TC,B9,Il];refine Sv ?_;omega
def aOY(n m:Nd):FI [n,m] 0=some n:=rfl
def aOZ(n m:Nd):FI [n,m] 1=some m:=rfl
def acN{n m x:Nd}{t:Int}(hx:FI [n,m] t=some x)(ht:0<=t/\t < 2)(MH:F6 x):Bz n m true t=some (.nx (true,t+1)):=by unfold Bz;rw[F5 ht.2,cond_true,hx,TC,aOW MH,TC,B9];by_cases hf:Ds x<=400/\Ob x<=100;rw[Aq hf,acX MH,ayT MH,aqG MH,aLK MH];simp only[TC,FW,BT,B9,cond_true];rw[Aq trivial,Aq trivial,Aq trivial,Aq trivial,BS (by omega)];rw[Ar hf,BS (by omega)]
def sF{n m:Nd}(h:IU=some ())(hn:F6 n)(hm:F6 m):Dt n m=some true:=by
 have e:IT (λx=>Bz n m x.1 x.2) (true,0)=some (.inl true):=D0 (n:=3) (by
  rw[CT];dsimp only;rw[acN (aOY n m) (by omega) hn,TC];show CT (λx=>Bz n m x.1 x.2) 2 (true,0+1)=_;rw[CT];dsimp only;rw[show(0:Int)+1=1 from rfl,acN (aOZ n m) (by omega) hm,TC];show CT (λx=>Bz n m x.1 x.2) 1 (true,1+1)=_;rw[CT];dsimp only;unfold Bz;rw[EA (by omega),cond_false];rfl)
 rw[Dt,h,TC,e];rfl
end Mo
end Go.Proofs.YtkcimienkafhmaaGreatDoor
namespace Go.Proofs.YtkcimienkafhmaaGreatDoor
open AI Go
namespace Mo
set_option maxHeartbeats 4000000
def aLX{f:Fn}(h:Z6 f):∀(i:Nat) p,f.ps[i]?=some p->0<=p.fr:=by
 intro i
 induction i with
 |zero=>intro p hp;rw[h.2.2.1 p hp];omega
 |succ i ih=>
  intro p hp;have hi:i < f.ps.length:=by have:=(aHS.1 hp).1;omega
  have h1:=(h.2.2.2 (i+1) p hp).2.1 f.ps[i] (by omega) (atS hi);have:=ih _ (atS hi);omega
def asP{f:Fn}(h:Z6 f):sT f/\f.ps.length<=64:=by refine⟨⟨by have:=h.2.1;omega,λy hy=>?_⟩,h.2.1.2⟩;obtain⟨i,hi⟩:=beI hy;have h0:=aLX h i y hi;obtain⟨a1,_,_,a4,a5,a6,a7⟩:=h.2.2.2 i y hi;have hr:=h.1;unfold I0 at hr;rw[FU (by omega)] at a4;rw[FU (by omega)] at a5;exact⟨⟨by omega,by omega⟩,⟨by omega,by omega⟩,by omega,by omega⟩
def LO{f:Fn}(h:f.ps=[]):sT f/\f.ps.length<=64:=by unfold sT;rw[h];exact⟨⟨by simp,λy hy=>(by cases hy)⟩,by simp⟩
def avP{n:Nd}(h:Wq n):sT n.Cg/\n.Cg.ps.length<=64:=by
 unfold Wq at h;rcases h with h | h | h | h | h | h | h | h
 exact LO h.2.2.2.2.2.2.2.2.2.2.2.2.2;exact LO h.2.2.2.2.2.2.2.2.2.2;exact LO h.2.2.2.2.2.2.2.2.2.2;exact LO h.2.2.2.2.2.2.2.2.2.2;exact LO h.2.2.2.2.2.2.2.2.2;exact LO h.2.1.2.2.2.2.2.2.2;exact LO h.2.2.1.2.2.2.2.2.2.2;exact asP h.2.2.1
def abM(n:Nd):He n->Ds n<=1000000->F6 n/\psN n:=by refine aKC (p:=λn=>He n->Ds n<=1000000->F6 n/\psN n) (λn ih h hz=>?_) n;obtain⟨h1,h2⟩:=(Ga n).1 h;obtain⟨t1,t2⟩:=avP h1;have hs:=CS n;have hl:=Kj n.kids;exact⟨(TO n).2 ⟨t1,by omega,λk hk=>(ih k hk (h2 k hk) (by have:=Qa hk;omega)).1⟩,(oM n).2 ⟨by omega,λk hk=>(ih k hk (h2 k hk) (by have:=Qa hk;omega)).2⟩⟩
def Yh{n:Nd}(ht:n.Cg.ps=[])(hk:n.kids.length=0):F6 n/\psN n:=by have:=bbD hk;obtain⟨t1,t2⟩:=LO ht;exact⟨(TO n).2 ⟨t1,by omega,by rw[this];exact λk hk=>(by cases hk)⟩,(oM n).2 ⟨by omega,by rw[this];exact λk hk=>(by cases hk)⟩⟩
def Yl{n:Nd}(ht:n.Cg.ps=[])(hz:Ds n<=1000000)(hk:∀k∈n.kids,F6 k/\psN k):F6 n/\psN n:=by obtain⟨t1,t2⟩:=LO ht;have hs:=CS n;have hl:=Kj n.kids;exact⟨(TO n).2 ⟨t1,by omega,λk h=>(hk k h).1⟩,(oM n).2 ⟨by omega,λk h=>(hk k h).2⟩⟩
def qL{n:Nd}(h:Cn n)(hz:Ds n<=1000000):F6 n/\psN n:=by refine Yl h.1.2.2.2.2.2.2.2 hz λk hk=>abM k ?_ (by have:=Qa hk;omega);by_cases h7:n.kind=7;exact((h.2.1 h7).2 k hk).1;exact(h.2.2 h7).2 k hk
def agM{n:Nd}(h:GD n)(hz:Ds n<=1000000):F6 n/\psN n:=by
 rcases h with h | h | h
 exact Yh h.2.2.2.2.2.2.2.2.2.2.2 h.2.2.2.1;exact Yh h.2.2.2.2.2.2.2.2.2.2.2.2.2 h.2.2.2.2.2.1;obtain⟨_,_,hb,hd,cs,hk,_,_,_,hh,hc⟩:=h.2;refine Yl hb.2.2.2.2.2.2.2 hz λk hm=>?_;have:=Qa hm;rw[hk] at hm;rcases List.mem_cons.1 hm with rfl | hm
 exact Yh hh.2.2.2.2.2.2.2.2.2.2.2.2.2 hh.2.2.1;exact qL (hc k hm) (by omega)
def ahJ{ks:List Nd}(h:∀k∈ks,GD k)(hz:H9 ks<=10000):F6 (L3 ks)/\psN (L3 ks):=by refine Yl rfl (by have:=CS (L3 ks);rw[show Ds (L3 ks)=1+H9 ks from rfl];omega) λk hk=>agM (h k hk) (by have:=Fx (show k∈ks from hk);omega)
def zQ{ks:List Nd}(h:∀k∈ks,GD k)(hz:Ds (L3 ks)<=2000)(hd:Ob (L3 ks)<=40):oG (L3 ks):=⟨.inl ⟨rfl,⟨rfl,rfl,rfl,rfl,rfl,rfl,rfl,rfl⟩,h⟩,hz,hd⟩
def abS{l:List Tk}(h:Gx l)(k:Nat):Gx (l.drop k):=λt ht=>h t (List.mem_of_mem_drop ht)
def aMC{en:Int}:∀(q:Nat)(l:List Tk)(ks:List Nd)(ds:List Dg)(r:List Nd×List Dg),Gx l->l.length<=10000->(∀k∈ks,GD k)->XJ en q l ks ds=some r->∀k∈r.1,GD k:=by
 intro q
 induction q with
 |zero=>intro l ks ds r _ _ _ h;cases h
 |succ q ih=>
  intro l ks ds r hg hl hk h;cases l with
  |nil=>cases h;exact hk
  |cons t l=>
   unfold XJ at h;cases hd:CV ((ds.length:Nat):Int) 20 with
   |false=>rw[hd] at h;cases h;exact hk
   |true=>
    rw[hd] at h;dsimp only[cond] at h;split at h;cases h;rename_i n s hi;obtain⟨hn,hs⟩:=aAZ hg hi;obtain⟨⟨j,rfl⟩,_⟩:=Q9 (λt ht=>(hg t ht).1) hl hi;refine ih _ _ _ _ hs (by rw[aUZ];omega) (λk hm=>?_) h;rcases List.mem_append.1 hm with hm | hm
    exact hk k hm;rw[List.mem_singleton.1 hm];exact hn;rename_i d s hi;obtain⟨⟨k,rfl⟩,_⟩:=Q9 (λt ht=>(hg t ht).1) hl hi;obtain⟨j,hj⟩:=Rx ((t::l).drop k);rw[hj] at h;exact ih _ _ _ _ (abS (abS hg k) j) (by simp only[aUZ];omega) hk h
def apZ{s:ByteArray}{n:Nd}{ds:List Dg}(h:Ci s=some (n,ds)) :
   (ds≠[]/\n=z0/\ds.length<=20)\/(ds=[]/\∃ks,NE s=0/\XJ ((s.data.toList.length:Nat):Int) ((Fj s).length+1) (Fj s) [] []=some (ks,[])/\n=L3 ks/\(∀k∈ks,GD k)/\Ds n<=2000/\Ob n<=40):=by
 by_cases he:NE s=0
 ·obtain⟨ks,ds',h1,h2,h3,h4⟩:=acW he
  rw[h] at h2;have hv:=aMC _ _ _ _ _ (adY s) (by have:=(UC s).2;omega) (λk hk=>by cases hk) h1;cases ds' with
  |nil=>
   unfold aGC axC at h2;by_cases hc:2000 < Ds (L3 ks)\/40 < Ob (L3 ks);rw[if_pos hc] at h2;simp only[aUQ,bbI] at h2;obtain⟨rfl,rfl⟩:=h2;exact .inl ⟨by simp,rfl,by simp⟩;rw[if_neg hc] at h2;simp only[aUQ,bbI] at h2;obtain⟨rfl,rfl⟩:=h2;exact .inr ⟨rfl,ks,he,h1,rfl,hv,by omega,by omega⟩
  |cons d ds'=>cases h2;exact .inl ⟨by simp,rfl,h4⟩
 rw[agY he] at h;cases h;exact .inl ⟨by simp,rfl,by simp⟩
end Mo
end Go.Proofs.YtkcimienkafhmaaGreatDoor
namespace Go.Proofs.YtkcimienkafhmaaGreatDoor
open AI Go LexS
namespace Mo
set_option maxHeartbeats 4000000
@[irreducible] def peV(s:ByteArray):Nd×List Dg:=match S6 ((s.data.toList.length:Nat):Int) (Fj s) with|some x=>aGB x|none=>(z0,[])
@[irreducible] def aU(s:ByteArray):Nd×List Dg:=match XJ ((s.data.toList.length:Nat):Int) ((Fj s).length+1) (Fj s) [] [] with|some x=>aGC x.1 x.2|none=>(z0,[])
def aYH{s:ByteArray}(h:NE s=0):CY s=some (peV s):=by obtain⟨r,l,h1,h2⟩:=acY h;unfold peV;rw[h1];exact h2
def aYL{s:ByteArray}(h:NE s=0):Ci s=some (aU s):=by obtain⟨ks,ds,h1,h2,_⟩:=acW h;unfold aU;rw[h1];exact h2
def aqC{s:ByteArray}{n:Nd}{ds:List Dg}(h:CY s=some (n,ds))(hd:ds.length=0):NE s=0/\He n/\Ds n<=2000/\Ob n<=40/\S6 ((s.data.toList.length:Nat):Int) (Fj s)=some (.inl n,[]):=by
 by_cases he:NE s=0
 ·obtain⟨r,l,h1,h2⟩:=acY he
  rw[h] at h2;have h2:=bbJ h2;cases r with
  |inr d=>
   have:=(bjF h2).2;rw[this] at hd;cases hd
  |inl m=>
   cases l with
   |cons t l=>
    have:=(bjF h2).2;rw[this] at hd;cases hd
   |nil=>
    have hv:=(aEI (adY s) h1).1;unfold aGB axC at h2;dsimp only at h2;by_cases hc:2000 < Ds m\/40 < Ob m;rw[if_pos hc] at h2;have:=(bjF h2).2;rw[this] at hd;cases hd;rw[if_neg hc] at h2;have e:=(bjF h2).1;subst e;exact⟨he,hv,by omega,by omega,h1⟩
 rw[ahA he] at h;cases h;cases hd
def aRP{n:Nd}(h:He n)(hz:Ds n<=2000)(hd:Ob n<=40):¬n.kind=1/\F6 n/\oG n:=by
 have hk:=Uo ((Ga n).1 h).1;have k1:¬n.kind=1:=by omega
 exact⟨k1,(abM n h (by omega)).1,.inr ⟨k1,h⟩,hz,hd⟩
def avO{n:Nd}{t:ByteArray}(k1:¬n.kind=1)(hv:oG n)(hb:t.data.toList=Ao (tP n))(hl:NE t=0):exA n=(t,0):=by have et:hP (Ao (tP n))=t:=Co (by rw[M9,hb]);unfold exA rD;rw[if_neg (by simp[k1,hv]),et,if_pos hl]
def OH{s t:ByteArray}(h:NE s=0)(hd:(peV s).2.length=0)(hb:t.data.toList=Ao (tP (peV s).1))(hl:NE t=0):DI s=some t:=by have h1:=aYH h;obtain⟨_,hx,hz,hdp,_⟩:=aqC (n:=(peV s).1) (ds:=(peV s).2) h1 hd;obtain⟨k1,ok,hv⟩:=aRP hx hz hdp;unfold DI;rw[h1,TC];dsimp only;rw[EA (by omega),cond_false,acX ok,avO k1 hv hb hl];rfl
abbrev Pv:=Aa
def agH:Oe=some true:=by
 have hp:=aYL (s:=Pv) (by kernel_rfl);have hd:(aU Pv).2.length=0:=by kernel_rfl
 have hs:A8 (aU Pv).1=some (Ad,0):=by
  have hk:(aU Pv).1.kind=1:=by kernel_rfl
  rcases apZ (n:=(aU Pv).1) (ds:=(aU Pv).2) hp with ⟨h,_⟩ | ⟨_,ks,_,_,h3,h4,h5,h6⟩
  exact absurd (bbD hd) h;have hz:Ds (L3 ks)=1+H9 ks:=rfl;have ok:F6 (aU Pv).1:=by rw[h3] at h5 ⊢;exact(ahJ h4 (by omega)).1
  have hv:oG (aU Pv).1:=by rw[h3] at h5 h6 ⊢;exact zQ h4 h5 h6
  rw[aqG ok]
  have hb:Ad.data.toList=Ao (afX (aU Pv).1):=by
   have aVG:Vz 8766=(⟨#[50,48,50,52,45,48,49,45,48,49]⟩:ByteArray).data.toList:=by
    obtain⟨j,r,w,a1,a2⟩:∃(j r:Nat)(w:List UInt8),sN 8766 j (r:Int)/\(Vz 8766=avF (j / 12) (j % 12+1) (r+1)):=by obtain⟨w,b1,b2,b3,b4,j,r,b5,b6⟩:=aCO (day:=8766) (by decide);refine⟨j,r,w,b5,?_⟩;unfold Vz;rw[b1];show w=_;exact b6
    have m2:sN 8766 288 0:=⟨31,8766,by decide,by kernel_rfl,by kernel_rfl,by decide,by decide,by decide,by decide⟩;obtain⟨rfl,e2⟩:=acM a1 m2;have:r=0:=by omega
    subst this;rw[a2];rfl
   have e1:(aU Pv).1.kids=[(aU Pv).1.kids.getD 0 z0,(aU Pv).1.kids.getD 1 z0]:=by kernel_rfl
   have e3:((aU Pv).1.kids.getD 1 z0).kids=[((aU Pv).1.kids.getD 1 z0).kids.getD 0 z0,((aU Pv).1.kids.getD 1 z0).kids.getD 1 z0]:=by kernel_rfl
   have f1:(((aU Pv).1.kids.getD 1 z0).kids.getD 0 z0).fr=8766:=by kernel_rfl
   have f2:(((aU Pv).1.kids.getD 1 z0).kids.getD 0 z0).known=8766:=by kernel_rfl
   have f3:(((aU Pv).1.kids.getD 1 z0).kids.getD 0 z0).to=36525:=by kernel_rfl
   have i0:JH ((aU Pv).1.kids.getD 0 z0)=[T1 1 (LJ.data.toList) [32],T1 1 [112,97,121] [32],T1 6 [58] [32],T1 2 [69,85,82] [32],T1 1 (WO.data.toList) [],T1 6 [59] [10]]:=by kernel_rfl
   have k1:((aU Pv).1.kids.getD 1 z0).kind=4:=by kernel_rfl
   have i1:JH ((aU Pv).1.kids.getD 1 z0)=wR ((aU Pv).1.kids.getD 1 z0):=by unfold JH;rw[k1];rfl
   unfold afX;rw[e1,bdP,bdP,List.flatMap_nil,i0,i1];unfold wR;rw[e3];dsimp only;unfold kD;rw[f1,f2,f3,aVG];show _=_
   kernel_rfl
  have et:hP (Ao (afX (aU Pv).1))=Ad:=Co (by rw[M9,<- hb]);unfold soA rD;rw[if_pos ⟨hk,hv⟩,et,if_pos (by kernel_rfl)]
 have hz:A8 (⟨0,VE,VE,0,0,0,0,(⟨0,[]⟩:Fn),[],0⟩:Nd)=some (VE,1):=by unfold A8;rw[Kx (by decide),cond_false]
 have p1:=OH (s:=F9) (t:=Ja) (by kernel_rfl) (by kernel_rfl) (by kernel_rfl) (by kernel_rfl);have p2:=OH (s:=E9) (t:=Hk) (by kernel_rfl) (by kernel_rfl) (by kernel_rfl) (by kernel_rfl);have p3:=OH (s:=DF) (t:=D7) (by kernel_rfl) (by kernel_rfl) (by kernel_rfl) (by kernel_rfl);have p4:=OH (s:=EK) (t:=FC) (by kernel_rfl) (by kernel_rfl) (by kernel_rfl) (by kernel_rfl);have p5:=OH (s:=Bl) (t:=Bl) (by kernel_rfl) (by kernel_rfl) (by kernel_rfl) (by kernel_rfl);have p6:=OH (s:=Bw) (t:=Bf) (by kernel_rfl) (by kernel_rfl) (by kernel_rfl) (by kernel_rfl);unfold Oe;simp only[p1,p2,p3,p4,p5,p6,hp,hs,hz,TC];show(_:Option Bool)=some true
 kernel_rfl
def aHY:IU=some ():=by unfold IU;rw[agH];rfl
def OT(n m:Nd)(hn:F6 n)(hm:F6 m):Dt n m=some true:=sF aHY hn hm
end Mo
end Go.Proofs.YtkcimienkafhmaaGreatDoor
