/- Part of a proof: see the last text. -/
import Derived.Test.YtpbkhogolfegfaaGreatDoorPr6
set_option linter.all false
noncomputable section
set_option maxRecDepth 100000
open Bool renaming and_eq_true->bhB,eq_false_iff->bpL,false_eq_true->biF,not_eq_true'->bpI,true_and->boB
open ByteArray renaming empty->gT
open Go.Lib renaming atoi->bpB,decFrom->bpP
open Int renaming le_of_lt->bqH,le_of_mul_le_mul_left->bpF,le_refl->boH,mul_comm->boR,mul_le_mul_of_nonneg_left->boI
open List renaming all_cons->bmQ,all_eq_true->bjM,any_cons->bnH,append_assoc->bjX,drop_drop->biU,drop_eq_getElem_cons->bjH,drop_eq_nil_of_le->biX,drop_zero->biT,eq_nil_of_length_eq_zero->biJ,getElem?_cons_zero->bkO,getElem?_eq_getElem->aBD,getElem?_eq_some_iff->aBC,getElem?_map->biH,getElem?_of_mem->bmD,head?_cons->boJ,head?_drop->blZ,length->bmC,length_append->aWQ,length_cons->bhE,length_drop->bhI,length_map->biE,length_nil->biV,length_singleton->bhF,length_take->biM,map->boV,map_cons->bkF,mem_cons->bhJ,mem_cons_of_mem->biB,mem_cons_self->biK,mem_map->bkR,mem_of_getElem?->aWR,mem_range->bkI,mem_singleton->biQ,not_mem_nil->biZ,range->bjD,range'->bqQ,take_succ_cons->bmF,toList_toArray->bkL
open Nat renaming add_assoc->blB,add_comm->bmP,le_of_ble_eq_true->bhG,le_refl->aWP,le_trans->biP,lt_or_ge->blM,zero_add->bhC,zero_le->bjI
open Option renaming bind->bjW,bind_some->Uu,map_some->bhK
open Option.some renaming inj->biA,injEq->atS
namespace Go.Proofs.YtpbkhogolfegfaaGreatDoor
open AI Go
namespace Mo
def xQ(n:Nd):Nd×List Dg:=if 2000 < Ft n\/40 < O5 n then (z0,[⟨2,0⟩]) else (n,[])
def axT{en:Int}:∀(q:Nat)(l:List Tk)(ks:List Nd)(ds:List Dg)(r:List Nd×List Dg),Gl l->l.length<=10000->ZQ en q l ks ds=some r->R4 r.1<=R4 ks+l.length/\r.2.length<=max 20 ds.length:=by
 intro q
 induction q with
 |zero=>intro l ks ds r _ _ h;cases h
 |succ q ih=>
  intro l ks ds r hg hl h;cases l with
  |nil=>cases h;exact⟨by dsimp only;omega,by dsimp only;omega⟩
  |cons t l=>
   unfold ZQ at h;cases hd:Cy ((ds.length:Nat):Int) 20 with
   |false=>rw[hd] at h;cases h;exact⟨by dsimp only;omega,by dsimp only;omega⟩
   |true=>
    rw[hd] at h;dsimp only[cond] at h;have hd:=iR hd;split at h;cases h;rename_i n s hi;have a:=aER (c:=0) hi;obtain⟨⟨k,rfl⟩,_,_⟩:=Zf hg hl hi;have b:=ih _ _ _ _ (hg.drop k) (by rw[bhI];omega) h;rw[kB,Rq] at b;exact⟨by dsimp only at a;omega,b.2⟩;rename_i d s hi;obtain⟨⟨k,rfl⟩,h2,_⟩:=Zf hg hl hi;obtain⟨j,hj⟩:=Vn ((t::l).drop k);have hl2:l.length<=10000:=by simp only[bhE] at hl;omega
    have b:=ih _ _ _ _ (by rw[hj];exact(hg.drop k).drop j) (by omega) h;simp only[aWQ,bhF] at b;simp only[bhE];exact⟨by omega,by omega⟩
def aUJ(ks:List Nd):List Dg->Nd×List Dg
 |[]=>xQ (Vm ks)
 |ds=>(z0,ds)
def sX{s:ByteArray}(h:Uf s=0):∃ks ds,ZQ ((s.data.toList.length:Nat):Int) ((Ey s).length+1) (Ey s) [] []=some (ks,ds)/\De s=some (aUJ ks ds)/\K4 ks<=2000/\ds.length<=20:=by
 obtain⟨hg,hl⟩:=Mv s;obtain⟨ks,ds,h1,h2⟩:=amB h hg (by omega);have h3:=axT _ _ _ _ _ hg (by omega) h1;have hw:=axJ ks;simp only[R4,biV] at h3;refine⟨ks,ds,h1,?_,by omega,by omega⟩;rw[h2];cases ds with
 |nil=>
  rw[Dv (by simp)];exact oB (by have:=Fu (Vm ks);simp only[Vm] at this;rw[show Ft (Vm ks)=1+K4 ks from rfl];omega)
 |cons d ds=>
  rw[En (by simp only[bhE];omega)];rfl
def aUI:(Nd⊕Dg)×List Tk->Nd×List Dg
 |(.inl n,[])=>xQ n
 |(.inl _,t::_)=>(z0,[⟨71,t.AO⟩])
 |(.inr d,_)=>(z0,[d])
def oL{s:ByteArray}(h:Uf s≠0):BN s=some (z0,[⟨(Uf s:Int),(aPT s:Int)⟩]):=by unfold BN Iz;rw[Uu];dsimp only;rw[DE (by unfold Uf at h;omega)];rfl
def sY{s:ByteArray}(h:Uf s=0):∃r l,RE ((s.data.toList.length:Nat):Int) (Ey s)=some (r,l)/\BN s=some (aUI (r,l)):=by
 obtain⟨hg,hl⟩:=Mv s;obtain⟨r,l,h1,_⟩:=aKL (en:=((s.data.toList.length:Nat):Int)) (n:=(Ey s).length) (by omega) hg (aWP _);refine⟨r,l,h1,?_⟩;obtain⟨k',a1,a2,rfl,a4⟩:=agB (by omega) hg (bjI _) (by rw[biT];exact h1);unfold BN Iz;rw[Uu];dsimp only;rw[C4 (by unfold Uf at h;omega)];dsimp only[cond];have a4:GC ⟨boV Ju (LexS.Of s.data.toList).fst,0,((s.data.toList.length:Nat):Int)⟩=some (r,(k':Int)):=a4;unfold L1 Kt;rw[a4,Uu];cases r with
 |inr d=>rfl
 |inl n=>
  dsimp only[Sum.elim];rcases Ko (Ey s) a2 with ⟨h2,h3⟩ | ⟨t,h2,h3,h4⟩
  rw[h3,Dv (by show((boV Ju (LexS.Of s.data.toList).fst).length:Int)<=_;unfold Ey at h2;omega)];dsimp only[cond,bjW,axV]
  have hz:Ft n<=1000000:=by have:=aiF (c:=0) h1;have:=aiJ n;dsimp only at *;omega
  have:=oB hz;rw[this];rfl;rw[h4,En (by show _ < ((boV Ju (LexS.Of s.data.toList).fst).length:Int);unfold Ey at h2;omega)];dsimp only[cond]
  have hgt:Dk (boV Ju (LexS.Of s.data.toList).fst) (k':Int)=some t:=by unfold Dk;rw[if_pos (by omega),Int.toNat_natCast];exact h3
  rw[hgt];rfl
end Mo
end Go.Proofs.YtpbkhogolfegfaaGreatDoor
namespace Go.Proofs.YtpbkhogolfegfaaGreatDoor
open AI Go LexS
namespace Mo
def azZ:∀n < 128,((O4 n &&& 26)≠0->(97<=n/\n<=122)\/(48<=n/\n<=57)\/n=95)/\((O4 n &&& 4)≠0->65<=n/\n<=90)/\((O4 n &&& 2)≠0->97<=n/\n<=122):=by decide
def azY{m:Nat}{c:UInt8}(h:cin m c=true):c.toNat < 128/\(O4 c.toNat &&& m)≠0:=by
 unfold cin at h;refine⟨?_,by simpa using h⟩
 by_cases hc:c.toNat < 128;exact hc;rw[qM _ (by omega)] at h;simp at h
end Mo
end Go.Proofs.YtpbkhogolfegfaaGreatDoor
namespace Go.Proofs.YtpbkhogolfegfaaGreatDoor
open AI Go
namespace Mo
set_option maxHeartbeats 4000000
section
variable (n:Nd)
def Ro:(Jr n).kind=n.kind:=by rw[Na]
def dR:(Jr n).name=n.name:=by rw[Na]
def dS:(Jr n).unit=n.unit:=by rw[Na]
def amV:(Jr n).n=n.n:=by rw[Na]
def aKF:(Jr n).fr=n.fr:=by rw[Na]
def aKG:(Jr n).to=n.to:=by rw[Na]
def aaM:(Jr n).known=n.known:=by rw[Na]
def aeP:(Jr n).CW=n.CW:=by rw[Na]
def N0:(Jr n).kids=n.kids.map Jr:=by rw[Na]
end
def axG:∀{l:List Nd},(∀k∈l,Ft (Jr k)=Ft k/\O5 (Jr k)=O5 k)->K4 (l.map Jr)=K4 l/\qU (l.map Jr)=qU l
 |[],_=>⟨rfl,rfl⟩
 |a::l,h=>by
  obtain⟨h1,h2⟩:=h a (by simp);obtain⟨h3,h4⟩:=axG (l:=l) λk hk=>h k (by simp[hk]);simp only[bkF,K4,qU,h1,h2,h3,h4,and_self]
def aQB{p:Nd->Prop}(h:∀n,(∀k∈n.kids,p k)->p n):∀(m:Nat)(n:Nd),Ft n<=m->p n:=by
 intro m
 induction m with
 |zero=>intro n h;have:=Fu n;omega
 |succ m ih=>
  intro n hn;have hsz:=Fu n;exact h n λk hk=>ih k (by have:=PF hk;omega)
def U3{p:Nd->Prop}(h:∀n,(∀k∈n.kids,p k)->p n)(n:Nd):p n:=aQB h (Ft n) n (aWP _)
def aiK(n:Nd):Ft (Jr n)=Ft n/\O5 (Jr n)=O5 n:=by refine U3 (p:=λn=>Ft (Jr n)=Ft n/\O5 (Jr n)=O5 n) (λn ih=>?_) n;obtain⟨h1,h2⟩:=axG (l:=n.kids) ih;rw[Fu (Jr n),OL (Jr n),OL n,Fu n,N0,h1,h2];exact⟨rfl,rfl⟩
def aZB{n:Nd}:IS n->IS (Jr n):=by
 refine U3 (p:=λn=>IS n->IS (Jr n)) (λn ih Nq=>?_) n;obtain⟨p1,p2,p3⟩:=(Qc n).1 Nq;rw[Na];refine(Qc _).2 ⟨p1,by simpa using p2,λy hy=>?_⟩
 obtain⟨k,hk,rfl⟩:=bkR.1 hy;exact ih k hk (p3 k hk)
def aUO{n:Nd}{i:Nat}{q:Nd->Prop}(hq:∀k,q (Jr k)↔q k):(∀k,(Jr n).kids[i]?=some k->q k)↔∀k,n.kids[i]?=some k->q k:=by rw[N0];constructor;intro h k hk;exact(hq k).1 (h _ (by rw[biH,hk];rfl));intro h k hk;rw[biH] at hk;obtain⟨y,hy,rfl⟩:=Option.map_eq_some_iff.1 hk;exact(hq y).2 (h y hy)
def WB{l:List Nd}{q:Nd->Prop}(hq:∀k∈l,q (Jr k)↔q k):(∀k∈l.map Jr,q k)↔∀k∈l,q k:=by constructor;intro h k hk;exact(hq k hk).1 (h _ (List.mem_map_of_mem hk));intro h k hk;obtain⟨y,hy,rfl⟩:=bkR.1 hk;exact(hq y hy).2 (h y hy)
def auJ(k:Nd):Ti (Jr k)↔Ti k:=by unfold Ti;rw[Ro,dS,amV]
def Vy(n f:Nd):Gp (Jr n) f↔Gp n f:=by unfold Gp;rw[dR,dS,amV,aKF,aKG,aaM,aeP]
def aNJ(n:Nd):VS (Jr n)↔VS n:=by unfold VS;rw[aUO auJ];simp only[Vy,Ro,dS,amV,dR,aeP,N0,biE]
def acJ(n:Nd):S5 (Jr n)↔S5 n:=by refine U3 (p:=λn=>S5 (Jr n)↔S5 n) (λn ih=>?_) n;rw[S6,S6,aNJ,N0,WB ih]
def XZ(k:Int):∀l:List Nd,El k (l.map Jr)=El k l
 |[]=>rfl
 |a::l=>by rw[bkF,El,El,Ro,XZ k l]
def nC(x:Nd):C5 (Jr x)↔C5 x:=by unfold C5;rw[Vy,Ro,N0,biE,WB (λk _=>and_congr (acJ k) (auJ k)),WB (λk _=>acJ k)]
def agJ(x:Nd):O7 (Jr x)↔O7 x:=by unfold O7;simp only[Vy,Ro,amV,aKF,aKG,aaM,N0,biE]
def aMH(n:Nd):abU (Jr n)↔abU n:=by
 unfold abU;rw[Vy,dR,amV,N0];refine and_congr_right λ_=>and_congr_right λ_=>and_congr_right λ_=>?_;cases n.kids with
 |nil=>exact⟨λ⟨h,cs,e,_⟩=>(nomatch e),λ⟨h,cs,e,_⟩=>(nomatch e)⟩
 |cons a l=>
  have hk:kinds (l.map Jr)↔kinds l:=by unfold kinds;exact WB λk _=>by rw[Ro]
  constructor;rintro⟨h,cs,e,h1,h2,h3,h4,h5⟩;rw[bkF] at e;cases e;exact⟨a,l,rfl,hk.1 h1,by rwa[XZ] at h2,by rwa[XZ] at h3,(agJ a).1 h4,(WB λk _=>nC k).1 h5⟩;rintro⟨h,cs,e,h1,h2,h3,h4,h5⟩;cases e;exact⟨Jr a,l.map Jr,rfl,hk.2 h1,by rwa[XZ],by rwa[XZ],(agJ a).2 h4,(WB λk _=>nC k).2 h5⟩
def aBQ(n:Nd):K8 (Jr n)↔K8 n:=by unfold K8;rw[aMH];simp only[Vy,Ro,amV,dR,dS,N0,biE]
def aQN(n:Nd):okV (Jr n)↔okV n:=by unfold okV;rw[Vy,Ro,acJ,(aiK n).1,(aiK n).2,N0,WB λk _=>aBQ k]
def apA:∀{l:List Nd},(∀k∈l,cN k=Ft k)->cL l=K4 l
 |[],_=>by rw[cL,K4]
 |a::l,h=>by rw[cL,K4,h a (by simp),apA λk hk=>h k (by simp[hk])]
def aMU(n:Nd):cN n=Ft n:=by refine U3 (p:=λn=>cN n=Ft n) (λn ih=>?_) n;rw[apC,Fu,apA ih]
def sG{α:Type}{l:List α}{body:Nat->α->Unit->Option (Lp Unit Unit Bool)}{x:Option Bool}(hl:l.length<=9223372036854775807)(hb:∀i y,l[i]?=some y->body i y ()=some (.nx ())):(PK l.length (Bs body (λ_=>()) (l.drop 0) 0 ())).bind (F0 (λ(_:Unit)=>x) (λv=>some v))=x:=by
 have key:∀(m:List α)(i:Nat),(∀j y,m[j]?=some y->body (i+j) y ()=some (.nx ()))->Bs body (λ_=>()) m i ()=some (.inl ()):=by
  intro m
  induction m with
  |nil=>intro i _;rfl
  |cons y m ih=>
   intro i h;rw[Bs,show body i y ()=some (.nx ()) from h 0 y rfl,Uu];exact ih (i+1) λj z hz=>by rw[blB,bmP 1 j];exact h (j+1) z hz
 rw[show PK l.length=λy:Option (Unit⊕Bool)=>y from funext λy=>if_pos hl,biT,key l 0 (λj y hy=>by rw[bhC];exact hb j y hy)];rfl
def aaE(x:Pc):R3 x x=true:=by unfold R3;simp
def aeJ(f:Fn)(h:f.ps.length<=9223372036854775807):KZ f f=some true:=by rw[KZ,C4 rfl,C4 rfl];refine sG h (λi y hy=>?_);rw[Rm,hy,Uu,aaE,cond_true]
def wF(x:ByteArray):Bd x.data.toList x.data.toList=true:=by rw[RC];simp
def aRN:∀(q:Nat)(e:Nd),Ft e<=q->Ft e<=1000000->U9 e->II q e e=some true:=by
 intro q
 induction q with
 |zero=>intro e h;have:=Fu e;omega
 |succ q ih=>
  intro e hq hz ho;have he:=Fu e;have hl:=Rr e.kids;obtain⟨h1,h2⟩:=(M0 e).1 ho;rw[II,Tw,C4 rfl,wF,wF,C4 rfl,C4 rfl,C4 rfl,C4 rfl,C4 rfl,aeJ _ (by omega),Uu,C4 rfl];dsimp only[cond];refine sG (by omega) (λi y hy=>?_);have hm:=aWR hy;have:=PF hm;rw[Ws,hy,Uu,ih y (by omega) (by omega) (h2 y hm),Uu,cond_true]
def uC{e:Nd}(hz:Ft e<=1000000)(ho:U9 e):Gu e e=some true:=RD (Ft e) λq hq=>aRN q e hq hz ho
def avR:∀(q:Nat)(n:Nd),Ft n<=q->Ft n<=100000->Gv q n=some (Jr n):=by
 intro q
 induction q with
 |zero=>intro n h;have:=Fu n;omega
 |succ q ih=>
  intro n hq hz;have hsz:=Fu n;have hl:=Rr n.kids
  have key:∀(m:List Nd)(i:Nat)(acc:List Nd),(∀k∈m,k∈n.kids)->acc.length+m.length<=100000->Bs (ρ:=Nd) (λi y x=>Qz (Gv q) i y x) (λx=>x) m i acc=some (.inl (acc++m.map Jr)):=by
   intro m
   induction m with
   |nil=>intro i acc _ _;simp[Bs]
   |cons y m ihm=>
    intro i acc hm hc;simp only[bhE] at hc;have hy:=PF (hm y (biK ..));rw[Bs,Qz,ih y (by omega) (by omega),Uu,B1 (by omega),Uu];have:=ihm (i+1) (acc++[Jr y]) (λk hk=>hm k (biB _ hk)) (by simp only[aWQ,bhF];omega);dsimp only[MK];rw[this,bjX];rfl
  rw[Gv,RY,show PK n.kids.length=λy:Option (List Nd⊕Nd)=>y from funext λy=>if_pos (by omega),biT,key n.kids 0 [] (λ_ h=>h) (by simp only[biV];omega),Na];rfl
def zZ{n:Nd}(hz:Ft n<=100000):Hk n=some (Jr n):=RD (Ft n) λq hq=>avR q n hq hz
def avD{n:Nd}(hs:Ft n<=10000)(hp:U9 n):Hv n=some (Jr n):=by unfold Hv;rw[if_pos ⟨by rw[cL,cL,aMU];omega,hp⟩]
def aSF{f:Fn}(h:uH f):∀(i:Nat) p,f.ps[i]?=some p->0<=p.fr:=by
 intro i
 induction i with
 |zero=>intro p hp;rw[h.2.2.1 p hp];omega
 |succ i ih=>
  intro p hp;have hi:i < f.ps.length:=by have:=(aBC.1 hp).1;omega
  have h1:=(h.2.2.2 (i+1) p hp).2.1 f.ps[i] (by omega) (aBD hi);have:=ih _ (aBD hi);omega
def axK{f:Fn}(h:uH f):yE f/\f.ps.length<=64:=by refine⟨⟨by have:=h.2.1;omega,λy hy=>?_⟩,h.2.1.2⟩;obtain⟨i,hi⟩:=bmD hy;have h0:=aSF h i y hi;obtain⟨a1,_,_,a4,a5,a6,a7⟩:=h.2.2.2 i y hi;have hr:=h.1;unfold Jl at hr;rw[JM (by omega)] at a4;rw[JM (by omega)] at a5;exact⟨⟨by omega,by omega⟩,⟨by omega,by omega⟩,by omega,by omega⟩
def MU{f:Fn}(h:f.ps=[]):yE f/\f.ps.length<=64:=by unfold yE;rw[h];exact⟨⟨by simp,λy hy=>(by cases hy)⟩,by simp⟩
def aAJ{n:Nd}(h:VS n):yE n.CW/\n.CW.ps.length<=64:=by
 unfold VS at h;rcases h with h | h | h | h | h | h | h | h
 exact MU h.2.2.2.2.2.2.2.2.2.2.2.2.2;exact MU h.2.2.2.2.2.2.2.2.2.2;exact MU h.2.2.2.2.2.2.2.2.2.2;exact MU h.2.2.2.2.2.2.2.2.2.2;exact MU h.2.2.2.2.2.2.2.2.2;exact MU h.2.1.2.2.2.2.2.2.2;exact MU h.2.2.1.2.2.2.2.2.2.2;exact axK h.2.2.1
def aAL(n:Nd):S5 n->Ft n<=1000000->IS n/\U9 n:=by refine U3 (p:=λn=>S5 n->Ft n<=1000000->IS n/\U9 n) (λn ih h hz=>?_) n;obtain⟨h1,h2⟩:=(S6 n).1 h;obtain⟨t1,t2⟩:=aAJ h1;have hs:=Fu n;have hl:=Rr n.kids;exact⟨(Qc n).2 ⟨t1,by omega,λk hk=>(ih k hk (h2 k hk) (by have:=Rt hk;omega)).1⟩,(M0 n).2 ⟨by omega,λk hk=>(ih k hk (h2 k hk) (by have:=Rt hk;omega)).2⟩⟩
def alM{n:Nd}(ht:n.CW.ps=[])(hk:n.kids.length=0):IS n/\U9 n:=by have:=biJ hk;obtain⟨t1,t2⟩:=MU ht;exact⟨(Qc n).2 ⟨t1,by omega,by rw[this];exact λk hk=>(by cases hk)⟩,(M0 n).2 ⟨by omega,by rw[this];exact λk hk=>(by cases hk)⟩⟩
def alV{n:Nd}(ht:n.CW.ps=[])(hz:Ft n<=1000000)(hk:∀k∈n.kids,IS k/\U9 k):IS n/\U9 n:=by obtain⟨t1,t2⟩:=MU ht;have hs:=Fu n;have hl:=Rr n.kids;exact⟨(Qc n).2 ⟨t1,by omega,λk h=>(hk k h).1⟩,(M0 n).2 ⟨by omega,λk h=>(hk k h).2⟩⟩
def So(hi:Int):List Tk->Prop
 |[]=>True
 |t::s=>t.AO<=hi/\(∀u∈s,t.AO<=u.AO)/\So hi s
def Lo(l:List Tk)(x:Int):Prop:=∀t∈l,x<=t.AO
end Mo
end Go.Proofs.YtpbkhogolfegfaaGreatDoor
namespace Go.Proofs.YtpbkhogolfegfaaGreatDoor
open AI Go LexS
namespace Mo
set_option maxHeartbeats 4000000
def ayX:∀(n o:Nat)(t:List UInt8)(hi:Int),((o+t.length:Nat):Int)<=hi->So hi ((Lu n o t).map Ju)/\∀u∈(Lu n o t).map Ju,(o:Int)<=u.AO:=by
 intro n
 induction n with
 |zero=>intro o t hi _;exact⟨trivial,λu hu=>(by cases hu)⟩
 |succ n ih=>
  intro o t hi h;unfold Lu;split;exact⟨trivial,λu hu=>(by cases hu)⟩;split;refine⟨⟨by show((o:Nat):Int)<=hi;omega,λu hu=>(by cases hu),trivial⟩,λu hu=>?_⟩;rw[biQ.1 hu];exact boH _
  obtain⟨h1,h2⟩:=ih (o+(A7 t).2+HV (t.drop (A7 t).2)) ((t.drop (A7 t).2).drop (HV (t.drop (A7 t).2))) hi (by
   have a1:=VH (t.drop (A7 t).2);have a2:=(Vc t ‹_›).2;simp only[bhI] at a1 ⊢;omega)
  refine⟨⟨by show((o:Nat):Int)<=hi;omega,λu hu=>?_,h1⟩,λu hu=>?_⟩;have:=h2 u hu;show((o:Nat):Int)<=u.AO;omega;rcases bhJ.1 hu with rfl | hu
  exact boH _;have:=h2 u hu;omega
def alO:∀(l acc:List LexS.Tok),(FC acc l).1=[]\/(FC acc l).1=acc++l:=by
 intro l
 induction l with
 |nil=>intro acc;right;simp[FC]
 |cons y l ih=>
  intro acc;unfold FC;split;exact .inl rfl;split;exact .inl rfl;rcases ih (acc++[y]) with h | h
  exact .inl h;right;rw[h,bjX];rfl
def aFP(s:ByteArray):So ((s.data.toList.length:Nat):Int) (Ey s)/\Lo (Ey s) 0:=by
 unfold Ey Of;split;exact⟨trivial,λu hu=>(by cases hu)⟩;rcases alO (FX s.data.toList) [] with h | h
 rw[h];exact⟨trivial,λu hu=>(by cases hu)⟩;rw[h,List.nil_append];obtain⟨h1,h2⟩:=ayX s.data.toList.length (HV s.data.toList) (s.data.toList.drop (HV s.data.toList)) ((s.data.toList.length:Nat):Int) (by have:=VH s.data.toList;rw[bhI];omega);exact⟨h1,λu hu=>by have:=h2 u hu;omega⟩
def aJX(n:Nd):U9 n->U9 (Jr n):=by refine U3 (p:=λn=>U9 n->U9 (Jr n)) (λn ih h=>?_) n;obtain⟨h1,h2⟩:=(M0 n).1 h;refine(M0 _).2 ⟨by rw[aeP];exact h1,λk hk=>?_⟩;rw[N0] at hk;obtain⟨y,hy,rfl⟩:=bkR.1 hk;exact ih y hy (h2 y hy)
end Mo
end Go.Proofs.YtpbkhogolfegfaaGreatDoor
namespace Go.Proofs.YtpbkhogolfegfaaGreatDoor
open AI Go
namespace Mo
set_option maxHeartbeats 4000000
abbrev eS:ByteArray:=gT
def agX(c:Int):Fy c=some (mb (97<=c/\c<=122)):=by rw[Fy];simp only[Lk,EA,MQ,Jt]
def aAG(c:Int):EU c=some (mb (48<=c/\c<=57)):=by rw[EU];simp only[Lk,EA,MQ,Jt]
def aFV(c:Int):DD c=some (mb (65<=c/\c<=90)):=by rw[DD];simp only[Lk,EA,MQ,Jt]
def QK(n a b:Int):Bi n a b=some (mb (a<=n/\n<=b)):=by rw[Bi];simp only[Lk,EA,MQ,Jt]
def aPG(l:List ByteArray)(s:ByteArray)(hl:l.length<=9223372036854775807):Ee l s=some (mb (s∈l)):=by
 unfold Ee
 rw[P3 (v:=true) (P:=λ_ y=>¬y=s) hl (λi y _=>by
  unfold Ms;simp only[Ij,EA,alK])]
 simp only[bfH];refine T8 ?_;constructor;intro h;exact Classical.byContradiction λhn=>h λi y hy e=>hn (e▸aWR hy);intro h hn;obtain⟨i,hi⟩:=bmD h;exact hn i s hi rfl
def aIH(s:ByteArray):KJ s=some (mb (acC s)):=by
 rw[KJ,Es,EA];unfold acC;by_cases h:s.data.toList.length=3
 ·rw[Bg (by omega)]
  generalize s.data.toList=l at h
  match l,h with
  |[a,b,c],_=>
   simp only[bkO,List.getElem?_cons_succ,Uu,aFV,EA,Jt];refine T8 ?_;simp only[bhE,biV,bhJ,biZ,or_false,true_and,forall_eq_or_imp,forall_eq];omega
 rw[Bl (by omega)];exact O0 λq=>h q.1
def auA(s:ByteArray):KY s=some (mb (MT s)):=by
 rw[KY];simp only[Ll,EA];unfold MT;by_cases h0:((s.data.toList.length:Nat):Int) < 1;rw[Bg h0];exact O0 λh=>by omega
 rw[Bl h0];by_cases h1:16 < ((s.data.toList.length:Nat):Int);rw[Bg h1];exact O0 λh=>by omega
 rw[Bl h1];obtain⟨b,hb⟩:∃b,s.data.toList[0]?=some b:=⟨_,aBD (by omega)⟩;rw[hb,show Gt=some xN from rfl];simp only[Uu,agX,EA]
 rw[aPG _ _ (by decide),P3 (v:=false) (P:=λ_ y=>abG y) (by omega) (λi y _=>by
  simp only[Wr,agX,aAG,Uu,EA,Es,xM,aYC];congr 2;unfold abG;apply propext;omega)]
 simp only[Uu,EA,MQ,aYP,Jt,WU];refine T8 ?_;constructor;rintro⟨h3,h5,h6⟩;exact⟨by omega,⟨b,rfl,by omega⟩,h5,h6⟩;rintro⟨h3,⟨c,hc,h4⟩,h5,h6⟩;cases hc;exact⟨by omega,h5,h6⟩
def zD(n:Nd):Prop:=n.fr=0/\n.to=0/\n.known=0
def zT(n:Nd):Prop:=n.CW.den=0/\n.CW.ps=[]
def sB{α:Type}(l:List α):(((l.length:Nat):Int)=0)=(l=[]):=propext ⟨λh=>biJ (by omega),λh=>by rw[h];rfl⟩
section
variable (n:Nd)
def qI:Gn n=some (mb (n.name=eS/\n.unit=eS/\n.n=0/\zD n/\zT n)):=by rw[Gn];simp only[Es,Ij,EA,MQ,Jt,sB,zD,zT];exact T8 (by simp only[and_assoc])
def aoR:Ix n=some (mb (n.name=eS/\zD n/\zT n/\n.kids=[])):=by rw[Ix];simp only[Es,Ij,EA,MQ,Jt,sB,zD,zT];exact T8 (by simp only[and_assoc])
def aMO:Iw n=some (mb (n.unit=eS/\n.n=0/\zD n/\zT n/\n.kids=[])):=by rw[Iw];simp only[Es,Ij,EA,MQ,Jt,sB,zD,zT];exact T8 (by simp only[and_assoc])
def aMQ:L4 n=some (mb (n.name=eS/\n.unit=eS/\zD n/\zT n/\n.kids=[])):=by rw[L4];simp only[Es,Ij,EA,MQ,Jt,sB,zD,zT];exact T8 (by simp only[and_assoc])
def azO:Ho n=some (mb (n.unit=eS/\n.n=0/\zD n/\zT n)):=by rw[Ho];simp only[Es,Ij,EA,MQ,Jt,sB,zD,zT];exact T8 (by simp only[and_assoc])
def azQ:K2 n=some (mb (n.name=eS/\n.unit=eS/\n.n=0/\zD n)):=by rw[K2];simp only[Es,Ij,EA,MQ,Jt,zD]
def aMP:F5 n=some (mb (n.n=0/\zD n/\zT n/\n.kids=[])):=by rw[F5];simp only[Es,Ij,EA,MQ,Jt,sB,zD,zT];exact T8 (by simp only[and_assoc])
def aMR:F6 n=some (mb (zD n/\zT n/\n.kids=[])):=by rw[F6];simp only[Es,Ij,EA,MQ,Jt,sB,zD,zT];exact T8 (by simp only[and_assoc])
def azP:Fo n=some (mb (n.unit=eS/\zD n/\zT n)):=by rw[Fo];simp only[Es,Ij,EA,MQ,Jt,sB,zD,zT];exact T8 (by simp only[and_assoc])
def azN:K1 n=some (mb (n.name=eS/\n.unit=eS/\zT n/\n.kids=[])):=by rw[K1];simp only[Es,Ij,EA,MQ,Jt,sB,zT];exact T8 (by simp only[and_assoc])
end
def adE{α:Type}{l:List α}:l.length=0↔l=[]:=List.length_eq_zero_iff
def dW{a d m:Int}(hd:0 < d)(h:a.tmod d=0):(-m<=a.tdiv d/\a.tdiv d<=m)↔(-(m*d)<=a/\a<=m*d):=by have e:d*a.tdiv d=a:=Int.mul_tdiv_cancel' (Int.dvd_of_tmod_eq_zero h);generalize a.tdiv d=q at *;subst e;constructor;rintro⟨h1,h2⟩;have a1:=boI h1 (bqH hd);have a2:=boI h2 (bqH hd);rw[Int.mul_neg,boR d m] at a1;rw[boR d m] at a2;exact⟨a1,a2⟩;rintro⟨h1,h2⟩;rw[boR m d] at h1 h2;refine⟨bpF ?_ hd,bpF h2 hd⟩;rw[Int.mul_neg];exact h1
def aFL(f:Fn)(hf:yE f):NW f=some (mb (uH f)):=by
 obtain⟨hl,hpc⟩:=hf;rw[NW,QK,QK];simp only[Uu,EA];by_cases hr:1<=f.den/\f.den<=1000000;rotate_left;rw[Bl hr];exact O0 λq=>hr q.1;rw[Bg hr];by_cases hn:1<=((f.ps.length:Nat):Int)/\((f.ps.length:Nat):Int)<=64;rotate_left;rw[Bl hn];exact O0 λq=>hn ⟨by have:=q.2.1;omega,by have:=q.2.1;omega⟩
 rw[Bg hn,P3 (v:=false) (P:=λi y=>Ym f i y/\(i=0->y.fr=0)) hl (λi y hy=>by
  have hi:i < f.ps.length:=(aBC.1 hy).1;obtain⟨_,WN,_⟩:=hpc y (aWR hy);have X3:f.den≠0:=by omega
  have hd0:0 < f.den:=by omega
  have hm:VR y.AO f.den=some (y.AO.tmod f.den):=by unfold VR XC;rw[if_neg X3]
  have hq:OM y.AO f.den=some (y.AO.tdiv f.den):=by
   unfold OM lE;rw[if_neg X3];have h1:(y.AO.tdiv f.den).natAbs<=y.AO.natAbs:=Int.natAbs_tdiv_le_natAbs _ _
   have h3:-9223372036854775808<=y.AO.tdiv f.den/\y.AO.tdiv f.den<=9223372036854775807:=by
    by_cases bdG:f.den=1;rw[bdG,Int.tdiv_one];exact WN;have h2:y.AO.natAbs<=9223372036854775808:=by omega
    have h4:(y.AO.tdiv f.den).natAbs < 9223372036854775808:=by
     rw[Int.natAbs_tdiv];have h5:2<=f.den.natAbs:=by omega
     have:y.AO.natAbs / f.den.natAbs<=y.AO.natAbs / 2:=Nat.div_le_div_left h5 (by decide);have h6:y.AO.natAbs / 2<=9223372036854775808 / 2:=Nat.div_le_div_right h2;exact Nat.lt_of_le_of_lt (biP this h6) (by decide)
    omega
   congr 1;have h7:=YS h3;rw[Vr] at h7;exact h7
  have bdX:Bj 999999999999 f.den=999999999999*f.den:=JM (by omega);have bdY:Bj (-999999999999) f.den=-(999999999999*f.den):=by rw[JM (by omega)];omega
  simp only[Vh,hm,hq,QK,Uu,Es,Ll,Lk,EA];unfold Ym;rw[hm,bdX,bdY];by_cases h0:i=0;subst h0;rw[Bg (show(((0:Nat):Int)=0) from rfl)];simp only[xM,alL,asL];congr 2;apply propext;simp only[atS,Nat.lt_irrefl,false_implies,implies_true,true_and];constructor;rintro⟨a,b,c,d,e⟩;have:=(dW (m:=999999999999) hd0 a).1 b;exact⟨⟨by omega,a,this.2,this.1,c.2,c.1⟩,λ_=>e⟩;rintro⟨⟨a,b,c,d,e,g⟩,h⟩;exact⟨b,(dW hd0 b).2 ⟨d,c⟩,⟨g,e⟩,by omega,h trivial⟩;rw[Bl (show ¬(((i:Nat):Int)=0) by omega),Bg (show(0:Int) < ((i:Nat):Int) by omega),FW (by omega)];obtain⟨pv,hpq⟩:∃pv,f.ps[i - 1]?=some pv:=⟨_,aBD (by omega)⟩
  have hg:Dk f.ps (((i:Nat):Int) - 1)=some pv:=by unfold Dk;rw[show(((i:Nat):Int) - 1).toNat=i - 1 by omega,if_pos (by omega)];exact hpq
  rw[hg,hpq];simp only[Uu,alK,alL,asL];congr 2;apply propext;simp only[atS,forall_eq'];constructor;rintro⟨a,b,c,d,e⟩;have:=(dW (m:=999999999999) hd0 a).1 b;exact⟨⟨by omega,λq _ e=>by subst e;omega,a,this.2,this.1,c.2,c.1⟩,λq=>absurd q h0⟩;rintro⟨⟨a,p,b,c,d,e,g⟩,h⟩;exact⟨b,(dW hd0 b).2 ⟨d,c⟩,⟨g,e⟩,by omega,by have:=p pv (by omega) rfl;omega⟩),MQ]
 refine T8 ?_;unfold uH Jl;constructor;intro h;exact⟨hr,by omega,λx hx=>(h 0 x hx).2 rfl,λi p hp=>(h i p hp).1⟩;rintro⟨_,_,h3,h4⟩ i p hp;exact⟨h4 i p hp,λe=>h3 p (by rw[<- e];exact hp)⟩
def auI(n:Nd):Jn n=some (mb (n.kind=11/\(n.name=eS/\zD n/\zT n/\n.kids=[])/\n.unit=BH/\Jl n.n)):=by rw[Jn,aoR,QK];simp only[Uu,Es,Ij,EA,Jt];rfl
theorem aiI(l m:List Nd):K4 (l++m)=K4 l+K4 m:=by induction l with|nil=>simp[K4]|cons a l ih=>simp only[List.cons_append,K4,ih];omega
theorem axH{l:List Nd}{i:Nat}{y:Nd}(h:l[i]?=some y):K4 (l.take (i+1))=K4 (l.take i)+Ft y:=by rw[List.take_add_one,h,aiI];simp[K4]
theorem axI(l:List Nd)(i:Nat):K4 (l.take i)<=K4 l:=by have:=aiI (l.take i) (l.drop i);rw[List.take_append_drop] at this;omega
theorem okQ(n:Nd)(h:IS n):n.kids.length<=9223372036854775807/\∀k∈n.kids,IS k:=(RM h).2
theorem szQ(n:Nd)(h:Ft n<=1000000):n.kids.length<=9223372036854775807/\∀k∈n.kids,Ft k<=1000000:=by have h1:=Fu n;have h2:=Rr n.kids;exact⟨by omega,λk hk=>by have:=Rt hk;omega⟩
section
variable {Q:Nd->Prop}(hQ:∀n,Q n->n.kids.length<=9223372036854775807/\∀k∈n.kids,Q k)
include hQ
theorem aVC:∀(n:Nat)(e:Nd)(l:Int),Q e->Ft e<=n->l<=1000000->Hj n e l=some (max 0 (min ((Ft e:Nat):Int) l)):=by
 intro n
 induction n with
 |zero=>intro e l _ h;have:=Fu e;omega
 |succ n ih=>
  intro e l Nq hn hl;obtain⟨hk,XG⟩:=hQ e Nq;have hp:=Fu e;rw[Hj,RW,aHS];simp only[Lk,EA,abN,XP];refine⟨λh=>by omega,λh=>?_⟩;refine azC (λi x=>x=min (((1+K4 (e.kids.take i):Nat)):Int) l) hk (by simp[K4];omega) (λi y x hy hx=>?_) (λx hx=>?_);have hm:=aWR hy;have h1:=axH hy;have h2:=axI e.kids (i+1);have h3:=Rt hm;simp only[Vd,Ll,EA,abN,afM,XP,aUC,aUB];refine⟨λh4=>?_,λh4=>by omega⟩;rw[FW (by omega),ih y (l - x) (XG y hm) (by omega) (by omega),XP,Cg (by omega)];omega;rw[List.take_length] at hx;rw[XP];omega
theorem aIK(e:Nd)(l:Int)(h:Q e)(hl:0<=l/\l < 1000000):KL e l=some (mb (((Ft e:Nat):Int)<=l)):=by have hc:RX e (l+1)=some (max 0 (min ((Ft e:Nat):Int) (l+1))):=RD (Ft e) λn hn=>aVC hQ n e (l+1) h hn (by omega);rw[KL,Cg (by omega),hc,aHS];simp only[Lk,EA,abN,XP,afM,aeV,Z2];omega
theorem aqR:∀(n:Nat)(e:Nd)(l:Int),Q e->Ft e<=n->-1000000<=l->l<=1000000->IG n e l=some (mb (((O5 e:Nat):Int)<=l)):=by
 intro n
 induction n with
 |zero=>intro e l _ h;have:=Fu e;omega
 |succ n ih=>
  intro e l Nq hn hl0 hl;obtain⟨hk,XG⟩:=hQ e Nq;have hp:=OL e;rw[IG,Tv,Ll,EA];by_cases h:l < 1;rw[Bg h];refine O0 ?_;omega
  rw[Bl h,P3 (v:=false) (P:=λ_ y=>((O5 y:Nat):Int)<=l - 1) hk (λi y hy=>by
   have hm:=aWR hy;have h3:=Rt hm;simp only[Wq];rw[FW (by omega),ih y (l - 1) (XG y hm) (by omega) (by omega) (by omega)];simp only[Uu,EA,xM]),MQ,WU]
  refine T8 ?_
  have h4:(∀k∈e.kids,((O5 k:Nat):Int)<=l - 1)↔qU e.kids<=(l - 1).toNat:=by rw[Za];exact⟨λh k hk=>by have:=h k hk;omega,λh k hk=>by have:=h k hk;omega⟩
  rw[h4];omega
theorem aqQ(e:Nd)(h:Q e):Gw e=some (mb (Ft e<=2000/\O5 e<=40)):=by have hf:KX e 40=some (mb (((O5 e:Nat):Int)<=40)):=RD (Ft e) λn hn=>aqR hQ n e 40 h hn (by omega) (by omega);rw[Gw,aIK hQ e 2000 h (by omega),hf];simp only[Uu,EA,Jt];refine T8 ?_;omega
end
theorem aVW(e:Nd)(l:Int)(h:IS e)(hl:0<=l/\l < 1000000):KL e l=some (mb (((Ft e:Nat):Int)<=l)):=aIK okQ e l h hl
theorem aNO(e:Nd)(h:IS e):Gw e=some (mb (Ft e<=2000/\O5 e<=40)):=aqQ okQ e h
theorem eqN{n:Nd}{nm un:ByteArray}{k f t w:Int}{tb:Fn}:Gp n ⟨0,nm,un,k,f,t,w,tb,[],0⟩↔n.name=nm/\n.unit=un/\n.n=k/\n.fr=f/\n.to=t/\n.known=w/\n.CW.den=tb.den/\n.CW.ps=tb.ps:=Iff.rfl
theorem oE{k:Nd}:S5 k/\Ti k↔(k.kind=11/\(k.name=eS/\zD k/\zT k/\k.kids=[])/\k.unit=BH/\Jl k.n):=by rw[S6];unfold Ti zD zT Jl;constructor;rintro⟨⟨h1,_⟩,h2,h3,h4⟩;obtain⟨_,_,_,_,hl,hb⟩:=(aAI h2).1 h1;obtain⟨b1,_,_,b4,b5,b6,b7,b8⟩:=eqN.1 hb;exact⟨h2,⟨b1,⟨b4,b5,b6⟩,⟨b7,b8⟩,adE.1 hl⟩,h3,h4⟩;rintro⟨h2,⟨b1,⟨b4,b5,b6⟩,⟨b7,b8⟩,hl⟩,h3,h4⟩;refine⟨⟨(aAI h2).2 ⟨.inr (.inl h3),by omega,by omega,λe=>?_,by rw[hl];rfl,eqN.2 ⟨b1,rfl,rfl,b4,b5,b6,b7,b8⟩⟩,λk hk=>by rw[hl] at hk;cases hk⟩,h2,h3,h4⟩;rw[h3] at e;exact absurd (congrArg ByteArray.data e) (by decide)
theorem aAM:∀(q:Nat)(n:Nd),IS n->2*Ft n<=q->IJ q n=some (mb (S5 n)):=by
 intro q
 induction q using Nat.strongRecOn with
 |_ q ih=>
 intro n Nq hq;have hsz:=Fu n;obtain⟨q,rfl⟩:∃k,q=k+1:=⟨q - 1,by omega⟩;obtain⟨nS,hkl,XG⟩:=RM Nq;have hfn:=((Qc n).1 Nq).1;have hE:∀k∈n.kids,∀q',q<=q'+1->q' < q+1->IJ q' k=some (mb (S5 k)):=λk hk q' h4 h5=>ih q' h5 k (XG k hk) (by have:=PF hk;omega)
 have hL:0 < n.kids.length->LO q n.kids=some (mb (∀k∈n.kids,S5 k)):=by
  intro h;obtain⟨q,rfl⟩:∃k,q=k+1:=⟨q - 1,by have:=Rr n.kids;omega⟩
  rw[LO,R0,P3 (v:=false) (P:=λ_ y=>S5 y) hkl (λi y hy=>by
   simp only[Vg];rw[hE y (aWR hy) q (by omega) (by omega)];simp only[Uu,EA,xM]),MQ,WU]
 rw[IJ,Tx];simp only[Es,Ij,Lk,EA,aoR,aMO,aMQ,qI,azO,azQ,QK,aIH,auA,auI,aFL _ hfn,Uu];rw[S6];have sR:n.kids=[]->(∀k∈n.kids,S5 k):=λh k hk=>by rw[h] at hk;cases hk
 by_cases k11:n.kind=11;rw[Bg k11,aAI k11,eqN,adE];simp only[MQ,Jt,aCF,Te,zD,zT,Pf];have tt:GX (acC n.unit) (some true) (some true)=some (mb True):=by rw[Te,mbT]
 have hb:∀{A:Prop},GX A (some (mb True)) (some false)=some (mb A):=by intro A;rw[Jt];exact T8 (by simp)
 first
  |(simp only[tt,mbT,Jt,aCE])
  |skip
 refine T8 ⟨?_,?_⟩;rintro⟨⟨b1,⟨b2,b3,b4⟩,⟨b5,b6⟩,b7⟩,h1,h2⟩;refine⟨?_,sR b7⟩;by_cases ht:n.unit=DS;have:=h1 ht;exact⟨.inl ht,by omega,by omega,λ_=>by omega,b7,b1,trivial,trivial,b2,b3,b4,b5,b6⟩;obtain⟨h3,h4⟩:=h2 ht;refine⟨?_,by omega,by omega,λh=>absurd h ht,b7,b1,trivial,trivial,b2,b3,b4,b5,b6⟩;rcases h4 with h | h | h
 exact .inr (.inr (.inr h));exact .inr (.inl h);exact .inr (.inr (.inl h));rintro⟨⟨h0,h1,h2,h3,b7,b1,_,_,b2,b3,b4,b5,b6⟩,_⟩;refine⟨⟨b1,⟨b2,b3,b4⟩,⟨b5,b6⟩,b7⟩,λht=>⟨⟨h1,h3 ht⟩,h1,h2⟩,λht=>⟨⟨h1,h2⟩,?_⟩⟩;rcases h0 with h | h | h | h
 exact absurd h ht;exact .inr (.inl h);exact .inr (.inr h);exact .inl h;rw[Bl k11];by_cases k12:n.kind=12;rw[Bg k12,aVM k12,eqN,adE];simp only[Jt,zD,zT];refine T8 ?_;constructor;rintro⟨⟨b1,b2,⟨b3,b4,b5⟩,⟨b6,b7⟩,b8⟩,h⟩;exact⟨⟨h,b8,trivial,b1,b2,b3,b4,b5,b6,b7⟩,sR b8⟩;rintro⟨⟨h,b8,_,b1,b2,b3,b4,b5,b6,b7⟩,_⟩;exact⟨⟨b1,b2,⟨b3,b4,b5⟩,⟨b6,b7⟩,b8⟩,h⟩;rw[Bl k12];by_cases k13:n.kind=13;rw[Bg k13,aVN k13,eqN,adE];simp only[Jt,zD,zT];refine T8 ?_;constructor;rintro⟨⟨b1,b2,⟨b3,b4,b5⟩,⟨b6,b7⟩,b8⟩,h⟩;exact⟨⟨h,b8,b1,b2,trivial,b3,b4,b5,b6,b7⟩,sR b8⟩;rintro⟨⟨h,b8,b1,b2,_,b3,b4,b5,b6,b7⟩,_⟩;exact⟨⟨b1,b2,⟨b3,b4,b5⟩,⟨b6,b7⟩,b8⟩,h⟩;rw[Bl k13];by_cases k14:n.kind=14;rw[Bg k14,aVO k14,eqN,adE,aPG _ _ (by decide)];simp only[Uu,Jt,zD,zT];refine T8 ?_
 have hd:n.name∈[Ei,PV,Hr,KP]↔gA n.name:=by unfold gA;simp only[bhJ,biZ,or_false]
 rw[hd];constructor;rintro⟨⟨b1,b2,⟨b3,b4,b5⟩,⟨b6,b7⟩,b8⟩,h⟩;exact⟨⟨h,b8,trivial,b1,b2,b3,b4,b5,b6,b7⟩,sR b8⟩;rintro⟨⟨h,b8,_,b1,b2,b3,b4,b5,b6,b7⟩,_⟩;exact⟨⟨b1,b2,⟨b3,b4,b5⟩,⟨b6,b7⟩,b8⟩,h⟩;rw[Bl k14]
 have hone:∀{β:Type}(f:Bool->Option β),n.kids.length=1->((n.kids[0]?).bind λx=>(IJ q x).bind f)=f (mb (∀k∈n.kids,S5 k)):=by
  intro β f hl;have hE0:=λk hk=>hE k hk q (by omega) (by omega);generalize n.kids=ks at *
  match ks,hl with
  |[x],_=>
  simp only[bkO,Uu];rw[hE0 x (by simp)];simp only[Uu];congr 1;exact MS (by simp)
 by_cases k15:n.kind=15;rw[Bg k15,aVP k15,eqN];by_cases hl:n.kids.length=1;rw[Bg (show((n.kids.length:Nat):Int)=1 by omega),hone _ hl];simp only[Jt,zD,zT];refine T8 ?_;constructor;rintro⟨⟨b1,b2,b0,⟨b3,b4,b5⟩,⟨b6,b7⟩⟩,h⟩;exact⟨⟨hl,b1,b2,b0,b3,b4,b5,b6,b7⟩,h⟩;rintro⟨⟨_,b1,b2,b0,b3,b4,b5,b6,b7⟩,h⟩;exact⟨⟨b1,b2,b0,⟨b3,b4,b5⟩,⟨b6,b7⟩⟩,h⟩;rw[Bl (show ¬((n.kids.length:Nat):Int)=1 by omega),Te];exact O0 λa=>hl a.1.1;rw[Bl k15];by_cases k16:n.kind=16
 ·rw[Bg k16,aVQ k16,eqN,aPG _ _ (by decide)]
  have rO:n.name∈[aH,MI,Ec,ES,ID,EE,Mc,J5,Oz,DP,bC]↔mF n.name:=by
   unfold mF;simp only[bhJ,biZ,or_false];constructor;rintro(h | h | h | h | h | h | h | h | h | h | h)<;>simp[h]
   rintro(h | h | h | h | h | h | h | h | h | h | h)<;>simp[h]
  by_cases hl:n.kids.length=2;rotate_left;rw[Bl (show ¬((n.kids.length:Nat):Int)=2 by omega),Te];exact O0 λa=>hl a.1.2.1;rw[Bg (show((n.kids.length:Nat):Int)=2 by omega),hL (by omega)];have hk1:n.kids[1]?=some n.kids[1]:=aBD (by omega);have Sw:n.kids[1]∈n.kids:=List.getElem_mem _;rw[hk1];simp only[Uu,auI,EA,Jt,aCE,rO,zD,zT];refine T8 ?_;have aOL:=@oE n.kids[1];unfold zD zT at aOL;generalize n.kids[1]=x at *;simp only[atS,forall_eq'];constructor;rintro⟨⟨b2,b0,⟨b3,b4,b5⟩,⟨b6,b7⟩⟩,h1,h2⟩;by_cases hs:n.name=DP;obtain⟨c1,c2,c3⟩:=h1 hs;exact⟨⟨⟨trivial,b2,b0,b3,b4,b5,b6,b7⟩,hl,c2,λ_=>(aOL.2 c1).2⟩,c3⟩;obtain⟨c2,c3⟩:=h2 hs;exact⟨⟨⟨trivial,b2,b0,b3,b4,b5,b6,b7⟩,hl,c2,λh=>absurd h hs⟩,c3⟩;rintro⟨⟨⟨_,b2,b0,b3,b4,b5,b6,b7⟩,_,c2,c1⟩,c3⟩;exact⟨⟨b2,b0,⟨b3,b4,b5⟩,⟨b6,b7⟩⟩,λhs=>⟨aOL.1 ⟨c3 x Sw,c1 hs⟩,c2,c3⟩,λ_=>⟨c2,c3⟩⟩
 rw[Bl k16];by_cases k17:n.kind=17
 ·rw[Bg k17,aVR k17,eqN]
  by_cases hl:2<=n.kids.length;rotate_left;rw[Bl (show ¬2<=((n.kids.length:Nat):Int) by omega),Te];exact O0 λa=>hl a.1.2.2;rw[Bg (show 2<=((n.kids.length:Nat):Int) by omega),hL (by omega)];simp only[Uu,Jt,aCE,zD,zT];refine T8 ?_;constructor;rintro⟨⟨b2,b0,⟨b3,b4,b5⟩,⟨b6,b7⟩⟩,h1,h2⟩;by_cases hs:n.name=GZ;exact⟨⟨.inl hs,⟨trivial,b2,b0,b3,b4,b5,b6,b7⟩,hl⟩,h1 hs⟩;exact⟨⟨.inr (h2 hs).1,⟨trivial,b2,b0,b3,b4,b5,b6,b7⟩,hl⟩,(h2 hs).2⟩;rintro⟨⟨c1,⟨_,b2,b0,b3,b4,b5,b6,b7⟩,_⟩,c3⟩;exact⟨⟨b2,b0,⟨b3,b4,b5⟩,⟨b6,b7⟩⟩,λ_=>c3,λhs=>⟨c1.resolve_left hs,c3⟩⟩
 rw[Bl k17];by_cases k18:n.kind=18;rw[Bg k18,aVS k18,eqN];by_cases hl:n.kids.length=1;rw[Bg (show((n.kids.length:Nat):Int)=1 by omega),hone _ hl];simp only[EA,Jt,zD];refine T8 ?_;constructor;rintro⟨⟨b1,b2,b0,⟨b3,b4,b5⟩⟩,h,h2⟩;exact⟨⟨⟨b1,b2,b0,b3,b4,b5,trivial,trivial⟩,h2,hl⟩,h⟩;rintro⟨⟨⟨b1,b2,b0,b3,b4,b5,_,_⟩,h2,_⟩,h⟩;exact⟨⟨b1,b2,b0,⟨b3,b4,b5⟩⟩,h,h2⟩;rw[Bl (show ¬((n.kids.length:Nat):Int)=1 by omega),Te];exact O0 λa=>hl a.1.2.2;rw[Bl k18];exact O0 λa=>by have:=afZ a.1;omega
theorem aqI{n:Nd}(Nq:IS n):JH n=some (mb (S5 n)):=RD (2*Ft n) λq hq=>aAM q n Nq hq
theorem aOH{n:Nd}:He n=some (mb (O7 n)):=by rw[He,azN];simp only[QK,Uu,Es,EA];unfold O7;rw[eqN,adE];unfold zT vZ;by_cases hf:0<=n.fr/\n.fr<=36524;rw[Cg (by omega)];simp only[Jt];refine T8 ⟨?_,?_⟩;rintro⟨k5,⟨b1,b2,⟨b3,b4⟩,b5⟩,⟨h1,h2⟩,h3,⟨h4,h5⟩,h6⟩;exact⟨k5,⟨h1,h2⟩,b5,h3,⟨by omega,h5⟩,h6,b1,b2,trivial,trivial,trivial,trivial,b3,b4⟩;rintro⟨k5,h1,b5,h3,⟨h4,h5⟩,h6,b1,b2,_,_,_,_,b3,b4⟩;exact⟨k5,⟨b1,b2,⟨b3,b4⟩,b5⟩,h1,h3,⟨by omega,h5⟩,h6⟩;rw[Bl hf];simp only[Te];exact O0 λa=>hf a.2.2.2.1
theorem alY(l:List Nd)(hl:l.length<=9223372036854775807):L5 l=some (mb (0 < l.length/\∀k∈l,S5 k/\Ti k)):=by
 rw[L5,P3 (v:=false) (P:=λ_ k=>S5 k/\Ti k) hl (λi k _=>by
  simp only[SI,auI,Uu,EA,xM,oE]),Ll,EA]
 simp only[MQ,Jt,WU];exact T8 ⟨λa=>⟨by omega,a.1⟩,λa=>⟨a.2,by omega⟩⟩
theorem abV(n:Nd):Gp n z0↔n.name=eS/\n.unit=eS/\n.n=0/\zD n/\zT n:=by unfold zD zT;rw[eqN];simp only[and_assoc]
theorem UJ:∀{l:List Nd}{i:Nat}{a b:Nat},(∀x∈l,IS x)->a+l.length<=9223372036854775807->b+l.length<=9223372036854775807 ->
 Bs (λi y x=>Fp i y x.1 x.2) (λx=>(x.1,x.2)) l i (((a:Nat):Int),((b:Nat):Int))=(some (GX (kinds l/\∀k∈l,C5 k) (.inl (((a+El 7 l:Nat):Int),((b+El 8 l:Nat):Int))) (.inr false)):Option ((Int×Int)⊕Bool))
 |[],i,a,b,_,_,_=>by rw[Bg (show kinds []/\_ from ⟨λk hk=>(by cases hk),λk hk=>(by cases hk)⟩)];rfl
 |x::l,i,a,b,Nq,ha,hb=>by
  simp only[bhE] at ha hb;have hx:=Nq x (by simp);obtain⟨nS,hkl,XG⟩:=RM hx;rw[Bs,Fp,qI];simp only[Uu,Es,EA,alY _ hkl]
  have acV:(kinds (x::l)/\∀k∈x::l,C5 k)↔((6<=x.kind/\x.kind<=8)/\C5 x)/\kinds l/\∀k∈l,C5 k:=by unfold kinds;simp only[bhJ,forall_eq_or_imp];exact⟨λ⟨⟨p,q⟩,r,s⟩=>⟨⟨p,r⟩,q,s⟩,λ⟨⟨p,r⟩,q,s⟩=>⟨⟨p,q⟩,r,s⟩⟩
  have stop:¬((6<=x.kind/\x.kind<=8)/\C5 x)->(some (Lp.rt false):Option (Lp (Int×Int) (Int×Int) Bool)).bind (MK (Bs (λi y x=>Fp i y x.1 x.2) (λx=>(x.1,x.2)) l (i+1)))=some (GX (kinds (x::l)/\∀k∈x::l,C5 k) (.inl (((a+El 7 (x::l):Nat):Int),((b+El 8 (x::l):Nat):Int))) (.inr false)):=by intro h;rw[Bl λq=>h (acV.1 q).1];rfl
  have go:∀{a' b':Nat},((6<=x.kind/\x.kind<=8)/\C5 x)->a'<=a+1->b'<=b+1->a'+El 7 l=a+El 7 (x::l)->b'+El 8 l=b+El 8 (x::l)->(some (Lp.nx (((a':Nat):Int),((b':Nat):Int))):Option (Lp (Int×Int) (Int×Int) Bool)).bind (MK (Bs (λi y x=>Fp i y x.1 x.2) (λx=>(x.1,x.2)) l (i+1)))=some (GX (kinds (x::l)/\∀k∈x::l,C5 k) (.inl (((a+El 7 (x::l):Nat):Int),((b+El 8 (x::l):Nat):Int))) (.inr false)):=by intro a' b' h h1 h2 e1 e2;have ih:=UJ (l:=l) (i:=i+1) (a:=a') (b:=b') (λy hy=>Nq y (by simp[hy])) (by omega) (by omega);rw[e1,e2] at ih;show Bs _ _ l (i+1) _=_;rw[ih];by_cases hr:kinds l/\∀k∈l,C5 k;rw[Bg hr,Bg (acV.2 ⟨h,hr⟩)];rw[Bl hr,Bl λq=>hr (acV.1 q).2]
  rw[<- abV];by_cases hb0:Gp x z0;rotate_left
  ·rw[Bl hb0];exact stop λq=>hb0 q.2.1
  rw[Bg hb0]
  have one:∀{A B:Option (Lp (Int×Int) (Int×Int) Bool)},x.kind≠7->(C5 x->A.bind (MK (Bs (λi y x=>Fp i y x.1 x.2) (λx=>(x.1,x.2)) l (i+1)))=some (GX (kinds (x::l)/\∀k∈x::l,C5 k) (.inl (((a+El 7 (x::l):Nat):Int),((b+El 8 (x::l):Nat):Int))) (.inr false))) ->
   (GX (((x.kids.length:Nat):Int)=1) ((x.kids[0]?).bind λx2=>(JH x2).bind λy3=>cond y3 A (some (.rt false))) (some (.rt false))).bind (MK (Bs (λi y x=>Fp i y x.1 x.2) (λx=>(x.1,x.2)) l (i+1)))=some (GX (kinds (x::l)/\∀k∈x::l,C5 k) (.inl (((a+El 7 (x::l):Nat):Int),((b+El 8 (x::l):Nat):Int))) (.inr false)):=by
   intro A B k7 hA;by_cases hl:x.kids.length=1;rotate_left
   ·rw[Bl (by omega)];exact stop λq=>hl (q.2.2.2 k7).1
   rw[Bg (by omega)]
   obtain⟨k,hk⟩:∃k,x.kids=[k]:=by
    generalize x.kids=ks at hl
    match ks,hl with|[k],_=>exact⟨k,rfl⟩
   have h0:x.kids[0]?=some k:=by rw[hk];rfl
   rw[h0];simp only[Uu];rw[aqI (XG k (by rw[hk];simp))];simp only[Uu,EA]
   have hc:C5 x↔S5 k:=by unfold C5;constructor;intro q;exact(q.2.2 k7).2 k (by rw[hk];simp);intro q;exact⟨hb0,λh=>absurd h k7,λ_=>⟨hl,λk' EM=>by rw[hk,biQ] at EM;rw[EM];exact q⟩⟩
   by_cases he:S5 k;rw[Bg he];exact hA (hc.2 he)
   ·rw[Bl he];exact stop λq=>he (hc.1 q.2)
  by_cases k6:x.kind=6;rw[Bg k6];refine one (B:=none) (by omega) λh=>go ⟨by omega,h⟩ (by omega) (by omega) (by simp[El,k6]) (by simp[El,k6]);rw[Bl k6];by_cases k8:x.kind=8;rw[Bg k8,Cg (by omega),show((b:Nat):Int)+1=((b+1:Nat):Int) by omega];refine one (B:=none) (by omega) λh=>go ⟨by omega,h⟩ (by omega) (by omega) (by simp[El,k8]) (by simp[El,k8];omega);rw[Bl k8];by_cases k7:x.kind=7
  ·rw[Bg k7]
   have hc:C5 x↔(0 < x.kids.length/\∀k∈x.kids,S5 k/\Ti k):=by unfold C5;exact⟨λq=>q.2.1 k7,λq=>⟨hb0,λ_=>q,λh=>absurd k7 h⟩⟩
   rw[<- hc];by_cases h:C5 x;rw[Bg h,Cg (by omega),show((a:Nat):Int)+1=((a+1:Nat):Int) by omega];exact go ⟨by omega,h⟩ (by omega) (by omega) (by simp[El,k7];omega) (by simp[El,k7])
   ·rw[Bl h];exact stop λq=>h q.2
  ·rw[Bl k7];exact stop λq=>by have:=q.1;omega
theorem akU(l:List Nd)(Nq:∀x∈l,IS x)(hl:l.length<=9223372036854775807):E4 l=some (mb ((kinds l/\∀k∈l,C5 k)/\El 7 l<=1/\El 8 l=1)):=by have h:=UJ (l:=l) (i:=0) (a:=0) (b:=0) Nq (by omega) (by omega);rw[E4,L9 hl,biT];rw[show(((0:Nat):Int))=0 from rfl] at h;rw[h];by_cases hc:kinds l/\∀k∈l,C5 k;rw[Bg hc];simp only[Uu,F0,Lk,Es,EA,MQ,Jt];exact T8 ⟨λq=>⟨hc,by omega,by omega⟩,λq=>⟨by omega,by omega⟩⟩;rw[Bl hc];exact O0 λq=>hc q.1
theorem nW{n:Nd}(Nq:IS n)(u:Prop):GX (n.kind=2) (GX (n.n=0/\zD n/\zT n/\n.kids=[]) (some (mb u)) (some false)) (GX (n.kind=3) (GX (zD n/\zT n/\n.kids=[]) (GX u (some (mb (1<=n.n/\n.n<=4))) (some false)) (some false)) (GX (n.kind=4) (GX (n.unit=eS/\zD n/\zT n) (GX (1<=n.n/\n.n<=1000000) (GX (1 < ((n.kids.length:Nat):Int)) ((n.kids[0]?).bind λx=>(He x).bind λy=>cond y ((cE n.kids 1 ((n.kids.length:Nat):Int)).bind λl=>(E4 l).bind λy=>some y) (some false)) (some false)) (some false)) (some false)) (some false)))=some (mb ((n.kind=2/\u/\n.n=0/\zD n/\zT n/\n.kids=[])\/(n.kind=3/\u/\(1<=n.n/\n.n<=4)/\zD n/\zT n/\n.kids=[])\/(n.kind=4/\(n.unit=eS/\zD n/\zT n)/\Jl n.n/\∃h cs,n.kids=h::cs/\kinds cs/\El 8 cs=1/\El 7 cs<=1/\O7 h/\∀k∈cs,C5 k))):=by
 obtain⟨nS,hkl,XG⟩:=RM Nq;by_cases k2:n.kind=2;rw[Bg k2,Jt];refine T8 ⟨λ⟨a,b⟩=>.inl ⟨k2,b,a⟩,?_⟩;rintro(a | a | a);exact⟨a.2.2,a.2.1⟩;omega;omega;rw[Bl k2];by_cases k3:n.kind=3;rw[Bg k3,Jt,Jt];refine T8 ⟨λ⟨a,b,c⟩=>.inr (.inl ⟨k3,b,c,a⟩),?_⟩;rintro(a | a | a);omega;exact⟨a.2.2.2,a.2.1,a.2.2.1⟩;omega;rw[Bl k3];by_cases k4:n.kind=4;rotate_left;rw[Bl k4];refine O0 ?_;rintro(a | a | a);omega;omega;omega;rw[Bg k4];by_cases hl:1 < n.kids.length;rotate_left;rw[Bl (show ¬(1:Int) < ((n.kids.length:Nat):Int) by omega),Te,Te];refine O0 ?_;rintro(a | a | ⟨_,_,_,h,cs,e,_,e8,_⟩);omega;omega;rw[e] at hl;have:=aAD 8 cs;simp at hl;rw[hl] at e8;cases e8;rw[Bg (show(1:Int) < ((n.kids.length:Nat):Int) by omega)];generalize n.kids=ks at *
 match ks,hl with
 |x::l,_=>
 have S7:cE (x::l) 1 (((x::l).length:Nat):Int)=some l:=by unfold cE;rw[if_pos (by simp only[bhE];omega)];simp
 rw[S7];simp only[bkO,Uu,aOH,EA];rw[akU l (λy hy=>XG y (by simp[hy])) (by simp at hkl;omega)];simp only[Uu,Jt];refine T8 ⟨?_,?_⟩;rintro⟨a,b,c,⟨d,e⟩,f,g⟩;exact .inr (.inr ⟨k4,a,b,x,l,rfl,d,g,f,c,e⟩);rintro(a | a | ⟨_,a,b,h,cs,e,d,g,f,c,e'⟩);omega;omega;cases e;exact⟨a,b,c,⟨d,e'⟩,f,g⟩
theorem aPJ{n:Nd}(Nq:IS n):PE n=some (mb (K8 n)):=by
 have c1:=nW Nq True;simp only[Bg trivial,<- mbT] at c1;have c2:=nW Nq (n.unit=Dx);rw[PE];simp only[auA,aIH,aMP,aMR,azP,QK,Uu,Es,Ij,Ll,EA];rw[c1,c2]
 have aWS:∀{un:ByteArray}{k:Int},Gp n ⟨0,n.name,un,k,0,0,0,⟨0,[]⟩,[],0⟩↔n.unit=un/\n.n=k/\zD n/\zT n:=by intro un k;unfold zD zT;rw[eqN];simp only[true_and,and_assoc]
 simp only[Jt,aCE];refine T8 ?_;unfold K8 abU;simp only[aWS,adE,true_and];constructor;rintro⟨hn,h1,h2⟩
 have uni:∀{k:Prop},(Pf n.unit->((n.kind=2/\n.n=0/\zD n/\zT n/\n.kids=[])\/(n.kind=3/\(1<=n.n/\n.n<=4)/\zD n/\zT n/\n.kids=[])\/(n.kind=4/\(n.unit=eS/\zD n/\zT n)/\Jl n.n/\∃h cs,n.kids=h::cs/\kinds cs/\El 8 cs=1/\El 7 cs<=1/\O7 h/\∀k∈cs,C5 k)))->Pf n.unit->((n.kind=2/\MT n.name/\Pf n.unit/\n.kids=[]/\n.n=0/\zD n/\zT n)\/(n.kind=3/\MT n.name/\Pf n.unit/\1<=n.n/\n.n<=4/\n.kids=[]/\zD n/\zT n)\/(n.kind=4/\Jl n.n/\MT n.name/\(n.unit=eS/\zD n/\zT n)/\∃h cs,n.kids=h::cs/\kinds cs/\El 8 cs=1/\El 7 cs<=1/\O7 h/\∀k∈cs,C5 k)):=by
  intro _ h hu;rcases h hu with ⟨a,b,c,d,e⟩ | ⟨a,b,c,d,e⟩ | ⟨a,b,c,d⟩
  exact .inl ⟨a,hn,hu,e,b,c,d⟩;exact .inr (.inl ⟨a,hn,hu,b.1,b.2,e,c,d⟩);exact .inr (.inr ⟨a,c,hn,b,d⟩)
 by_cases hc:acC n.unit;exact uni (k:=True) (λ_=>h1 hc) (.inr (.inr (.inr hc)));obtain⟨h3,h4⟩:=h2 hc;by_cases ht:n.unit=DS;exact uni (k:=True) (λ_=>h3 ht) (.inl ht);obtain⟨h5,h6⟩:=h4 ht;by_cases hm:n.unit=BH;exact uni (k:=True) (λ_=>h5 hm) (.inr (.inl hm));rcases h6 hm with ⟨a,b,r⟩ | ⟨a,b,r⟩ | r
 exact uni (k:=True) (λ_=>.inl ⟨a,r⟩) (.inr (.inr (.inl b)));exact uni (k:=True) (λ_=>.inr (.inl ⟨a,r⟩)) (.inr (.inr (.inl b)));exact .inr (.inr ⟨r.1,r.2.2.1,hn,r.2.1,r.2.2.2⟩)
 have back:(n.kind=2/\MT n.name/\Pf n.unit/\n.kids=[]/\n.n=0/\zD n/\zT n)\/(n.kind=3/\MT n.name/\Pf n.unit/\1<=n.n/\n.n<=4/\n.kids=[]/\zD n/\zT n)\/(n.kind=4/\Jl n.n/\MT n.name/\(n.unit=eS/\zD n/\zT n)/\∃h cs,n.kids=h::cs/\kinds cs/\El 8 cs=1/\El 7 cs<=1/\O7 h/\∀k∈cs,C5 k)->MT n.name/\(n.kind≠4->Pf n.unit)/\((n.kind=2/\n.n=0/\zD n/\zT n/\n.kids=[])\/(n.kind=3/\(1<=n.n/\n.n<=4)/\zD n/\zT n/\n.kids=[])\/(n.kind=4/\(n.unit=eS/\zD n/\zT n)/\Jl n.n/\∃h cs,n.kids=h::cs/\kinds cs/\El 8 cs=1/\El 7 cs<=1/\O7 h/\∀k∈cs,C5 k)):=by rintro(⟨a,b,c,d,e,f,g⟩ | ⟨a,b,c,d,d',e,f,g⟩ | ⟨a,b,c,d,e⟩);exact⟨b,λ_=>c,.inl ⟨a,e,f,g,d⟩⟩;exact⟨b,λ_=>c,.inr (.inl ⟨a,⟨d,d'⟩,f,g,e⟩)⟩;exact⟨c,λh=>absurd a h,.inr (.inr ⟨a,d,b,e⟩)⟩
 intro h;obtain⟨hn,hu,r⟩:=back h;refine⟨hn,λ_=>r,λnc=>⟨λ_=>r,λnt=>⟨λ_=>r,λnn=>?_⟩⟩⟩;rcases r with ⟨a,r⟩ | ⟨a,r⟩ | r
 have hm:n.unit=Dx:=by
  rcases hu (by omega) with h | h | h | h
  exact absurd h nt;exact absurd h nn;exact h;exact absurd h nc
 exact .inl ⟨a,hm,r⟩
 have hm:n.unit=Dx:=by
  rcases hu (by omega) with h | h | h | h
  exact absurd h nt;exact absurd h nn;exact h;exact absurd h nc
 exact .inr (.inl ⟨a,hm,r⟩);exact .inr (.inr r)
theorem aGE{n:Nd}(Nq:IS n):NV n=some (mb (okV n)):=by
 obtain⟨nS,hkl,XG⟩:=RM Nq;rw[NV,aNO n Nq,aqI Nq];simp only[Uu,EA,Es];unfold okV;by_cases hf:Ft n<=2000/\O5 n<=40;rotate_left;rw[Bl hf];exact O0 λq=>hf q.2;rw[Bg hf];by_cases k1:n.kind=1
 rw[Bg k1,P3 (v:=false) (P:=λ_ k=>K8 k) hkl (λi k hk=>by
  simp only[Vf];rw[aPJ (XG k (aWR hk))];simp only[Uu,EA,xM]),qI]
 simp only[Uu,Jt,WU];refine T8 ⟨λq=>⟨.inl ⟨k1,(abV n).2 q.2,q.1⟩,hf⟩,?_⟩;rintro⟨a | a,_⟩;exact⟨a.2.2,(abV n).1 a.2.1⟩;exact absurd k1 a.1;rw[Bl k1];refine T8 ⟨λq=>⟨.inr ⟨k1,q⟩,hf⟩,?_⟩;rintro⟨a | a,_⟩;exact absurd a.1 k1;exact a.2
end Mo
end Go.Proofs.YtpbkhogolfegfaaGreatDoor
namespace Go.Proofs.YtpbkhogolfegfaaGreatDoor
open AI Go LexS
namespace Mo
set_option maxHeartbeats 4000000
theorem byt{p:Nat->Bool}(h:(bjD 256).all p=true)(c:UInt8):p c.toNat=true:=bjM.1 h _ (bkI.2 c.toNat_lt)
theorem auS{o:Option Bool}{b:Bool}(h:(match o with | some x=>x == b | none=>false)=true):o=some b:=by cases o with|none=>cases h|some x=>rw[eq_of_beq h]
theorem aDI(c:UInt8):NO ((c.toNat:Nat):Int)=some (cin 1 c):=auS (byt (p:=λn=>match NO ((n:Nat):Int) with | some x=>x == ((O4 n &&& 1) != 0) | none=>false) (by kernel_rfl) c)
theorem tL(c:UInt8):EU ((c.toNat:Nat):Int)=some (cin 8 c):=auS (byt (p:=λn=>match EU ((n:Nat):Int) with | some x=>x == ((O4 n &&& 8) != 0) | none=>false) (by kernel_rfl) c)
theorem aDG(c:UInt8):Fy ((c.toNat:Nat):Int)=some (cin 2 c):=auS (byt (p:=λn=>match Fy ((n:Nat):Int) with | some x=>x == ((O4 n &&& 2) != 0) | none=>false) (by kernel_rfl) c)
theorem tM(c:UInt8):DD ((c.toNat:Nat):Int)=some (cin 4 c):=auS (byt (p:=λn=>match DD ((n:Nat):Int) with | some x=>x == ((O4 n &&& 4) != 0) | none=>false) (by kernel_rfl) c)
theorem avI(c:UInt8):KW ((c.toNat:Nat):Int)=some (cin 30 c):=auS (byt (p:=λn=>match KW ((n:Nat):Int) with | some x=>x == ((O4 n &&& 30) != 0) | none=>false) (by kernel_rfl) c)
theorem apJ(c:UInt8):cin 30 c=(cin 2 c||(cin 4 c||(cin 8 c||cin 16 c))):=by
 have:=byt (p:=λn=>((O4 n &&& 30) != 0) == (((O4 n &&& 2) != 0)||(((O4 n &&& 4) != 0)||(((O4 n &&& 8) != 0)||((O4 n &&& 16) != 0))))) (by kernel_rfl) c
 exact eq_of_beq this
theorem apI(c:UInt8):cin 26 c=(cin 30 c&&!cin 4 c):=by
 have:=byt (p:=λn=>((O4 n &&& 26) != 0) == (((O4 n &&& 30) != 0)&&!((O4 n &&& 4) != 0))) (by kernel_rfl) c
 exact eq_of_beq this
theorem aMX(c:UInt8)(h:cin 8 c=true):cin 2 c=false/\cin 4 c=false:=by
 have:=byt (p:=λn=>!((O4 n &&& 8) != 0)||(!((O4 n &&& 2) != 0)&&!((O4 n &&& 4) != 0))) (by kernel_rfl) c
 have h':((O4 c.toNat &&& 8) != 0)=true:=h
 rw[h'] at this
 simp only[Bool.not_true,Bool.false_or,bhB,bpI] at this
 exact this
theorem X1(c d:UInt8):A8 ((c.toNat:Nat):Int) ((d.toNat:Nat):Int)=(c == d):=by
 rw[Bool.eq_iff_iff,UL,beq_iff_eq,beq_iff_eq]
 constructor
 ·intro h;exact UInt8.toNat_inj.1 (by omega)
 ·intro h;rw[h]
theorem aND(c:UInt8):A8 ((c.toNat:Nat):Int) 10=(c == 10):=X1 c 10
theorem aqE(c:UInt8):A8 ((c.toNat:Nat):Int) 46=(c == 46):=X1 c 46
theorem aNE(c:UInt8):A8 ((c.toNat:Nat):Int) 45=(c == 45):=X1 c 45
theorem aNF(c:UInt8):A8 ((c.toNat:Nat):Int) 48=(c == 48):=X1 c 48
section
variable {s:ByteArray}(hs:s.data.toList.length<=100000)
theorem UO{α:Type}{l:List α}{i:Nat}:Dk l ((i:Nat):Int)=l[i]?:=by unfold Dk;rw[if_pos (by omega)];rfl
theorem Nt{α:Type}(l:List α)(k:Nat):(l.length<=k/\l.drop k=[])\/∃x,k < l.length/\l[k]?=some x/\l.drop k=x::l.drop (k+1):=by
 rcases blM k l.length with h | h
 ·exact .inr ⟨l[k],h,aBD h,bjH h⟩
 ·exact .inl ⟨h,biX h⟩
theorem SO{a b:Nat}(h1:a<=b)(h2:b<=s.data.toList.length):SN s (a:Int) (b:Int)=some ⟨((s.data.toList.drop a).take (b - a)).toArray⟩:=by
 unfold SN
 rw[if_pos ⟨by omega,by omega,by omega⟩]
 rfl
theorem aaK{b:Int->Option (Lp Int Int Int)}{m:Nat}(hb:∀(k:Nat) c,s.data.toList[k]?=some c->b (k:Int)=if cin m c then some (.nx ((k+1:Nat):Int)) else some (.ex (k:Int)))(he:∀k:Nat,s.data.toList.length<=k->b (k:Int)=some (.ex (k:Int))) :
   ∀(j k:Nat),s.data.toList.length - k<=j->B8 b (j+1) (k:Int)=some (.inl ((k+Bf m (s.data.toList.drop k):Nat):Int)):=by
 intro j
 induction j with
 |zero=>
  intro k hk
  show(b (k:Int)).bind _=_
  rw[he k (by omega),biX (by omega)];rfl
 |succ j ih=>
  intro k hk
  show(b (k:Int)).bind _=_
  rcases Nt s.data.toList k with ⟨h1,h2⟩ | ⟨c,h1,h2,h3⟩
  ·rw[he k h1,h2];rfl
  ·rw[hb k c h2,h3,FU]
   by_cases hc:cin m c=true
   ·rw[if_pos hc,if_pos hc]
    show B8 b (j+1) ((k+1:Nat):Int)=_
    rw[ih (k+1) (by omega)]
    congr 2
    omega
   ·rw[if_neg hc,if_neg hc];rfl
include hs
theorem aKB{k:Nat}(hk:k<=100000):Mr s (k:Int)=some ((k+Bf 30 (s.data.toList.drop k):Nat):Int):=by
 unfold Mr
 rw[BB (aaK (s:=s) (m:=30) (b:=λx=>PD s x) (λk c hc=>?_) (λk hk=>?_) _ k (aWP _)),Uu]
 ·rfl
 ·have hlt:=(aBC.1 hc).1
  unfold PD
  rw[En (by omega),UO,hc]
  dsimp only[cond,bjW]
  rw[avI,Cg (by omega)]
  cases cin 30 c<;>rfl
 ·unfold PD
  rw[Dv (by omega)];rfl
theorem yZ{k:Nat}(hk:k<=100000):FR s (k:Int)=some ((k+Bf 8 (s.data.toList.drop k):Nat):Int):=by
 unfold FR
 rw[BB (aaK (s:=s) (m:=8) (b:=λx=>L2 s x) (λk c hc=>?_) (λk hk=>?_) _ k (aWP _)),Uu]
 ·rfl
 ·have hlt:=(aBC.1 hc).1
  unfold L2
  rw[En (by omega),UO,hc]
  dsimp only[cond,bjW]
  rw[tL,Cg (by omega)]
  cases cin 8 c<;>rfl
 ·unfold L2
  rw[Dv (by omega)];rfl
theorem yY{k:Nat}{t:ByteArray}(hk:k<=s.data.toList.length)(ht:t.data.toList.length<=100000):Jm s (k:Int) t=some (t.data.toList.isPrefixOf (s.data.toList.drop k)):=by
 unfold Jm
 rw[OR,FW (by omega)]
 by_cases h:k+t.data.toList.length<=s.data.toList.length
 ·rw[T6 (by omega),Cg (by omega)]
  dsimp only[cond]
  rw[show(k:Int)+((t.data.toList.length:Nat):Int)=((k+t.data.toList.length:Nat):Int) by omega,SO (by omega) h,Uu,show k+t.data.toList.length - k=t.data.toList.length by omega,RC]
  dsimp only
  rw[bkL]
  cases List.take t.data.toList.length (List.drop k s.data.toList) == t.data.toList<;>rfl
 ·rw[P7 (by omega)]
  dsimp only[cond]
  congr 1
  symm
  apply beq_false_of_ne
  intro e
  have:=congrArg bmC e
  rw[biM,bhI] at this
  omega
omit hs in
theorem adW{k:Nat}(hk:k<=s.data.toList.length):Eu s (k:Int)=some (free (s.data.toList.drop k)):=by
 unfold Eu free
 rcases Nt s.data.toList k with ⟨h1,h2⟩ | ⟨c,h1,h2,h3⟩
 ·rw[T6 (by omega),h2];rfl
 ·rw[P7 (by omega),UO,h2,h3]
  dsimp only[cond,bjW,JC,boJ]
  rw[avI,aqE]
  dsimp only
  have:(some c == some (46:UInt8))=(c == 46):=rfl
  rw[this]
  cases cin 30 c<;>cases c == 46<;>rfl
def Sy(t:List UInt8):Nat:=(t.takeWhile (λc=>c != 10)).length
omit hs in
theorem Zh(c:UInt8)(t:List UInt8):Sy (c::t)=if c == 10 then 0 else 1+Sy t:=by
 unfold Sy
 rw[List.takeWhile_cons,bne]
 cases c == 10
 ·simp only[Bool.not_false,if_true,bhE,biF,if_false];omega
 ·rfl
omit hs in
theorem akW(t:List UInt8):Kh true t=Sy t+Kh false (t.drop (Sy t)):=by
 induction t with
 |nil=>rfl
 |cons c t ih=>
  rw[Zh]
  by_cases hc:c=10
  ·subst hc
   exact(wM t).trans (by simp)
  ·have:(c == 10)=false:=beq_false_of_ne hc
   rw[this,aqT c t hc,ih,if_neg (by simp),bmP 1 (Sy t),List.drop_succ_cons]
   omega
theorem aQZ:∀(j k:Nat),s.data.toList.length - k<=j->k<=s.data.toList.length->B8 (λx=>Gs s x) (j+1) (k:Int)=some (.inl ((k+Sy (s.data.toList.drop k):Nat):Int)):=by
 have stop:∀k:Nat,s.data.toList.length<=k->Gs s (k:Int)=some (.ex (k:Int)):=λk h=>by
  unfold Gs
  rw[Dv (by omega)];rfl
 intro j
 induction j with
 |zero=>
  intro k hk hl
  show(Gs s (k:Int)).bind _=_
  rw[stop k (by omega),biX (by omega)];rfl
 |succ j ih=>
  intro k hk hl
  show(Gs s (k:Int)).bind _=_
  rcases Nt s.data.toList k with ⟨h1,h2⟩ | ⟨c,h1,h2,h3⟩
  ·rw[stop k h1,h2];rfl
  ·have:Gs s (k:Int)=if (c == 10)=true then some (.ex (k:Int)) else some (.nx ((k+1:Nat):Int)):=by
    unfold Gs
    rw[En (by omega),UO,h2]
    dsimp only[cond,bjW]
    rw[aND,Cg (by omega)]
    cases c == 10<;>rfl
   rw[this,h3,Zh]
   cases c == 10
   ·show B8 (λx=>Gs s x) (j+1) ((k+1:Nat):Int)=_
    rw[ih (k+1) (by omega) (by omega)]
    congr 2
    simp only[biF,if_false]
    omega
   ·rfl
omit hs in
theorem asZ(t:List UInt8):Sy t<=t.length:=(List.takeWhile_sublist _).length_le
theorem amF:∀(j k:Nat),s.data.toList.length - k<=j->k<=s.data.toList.length->∃r,B8 (λx=>EV s x) (j+1) (k:Int)=some r/\(r=.inl ((k+Kh false (s.data.toList.drop k):Nat):Int)\/r=.inr ((k+Kh false (s.data.toList.drop k):Nat):Int)):=by
 have stop:∀k:Nat,s.data.toList.length<=k->EV s (k:Int)=some (.ex (k:Int)):=λk h=>by
  unfold EV
  rw[Dv (by omega)];rfl
 intro j
 induction j with
 |zero=>
  intro k hk hl
  refine⟨.inl (k:Int),?_,.inl ?_⟩
  ·show(EV s (k:Int)).bind _=_
   rw[stop k (by omega)];rfl
  ·rw[biX (by omega)];rfl
 |succ j ih=>
  intro k hk hl
  rcases Nt s.data.toList k with ⟨h1,h2⟩ | ⟨c,h1,h2,h3⟩
  ·refine⟨.inl (k:Int),?_,.inl ?_⟩
   ·show(EV s (k:Int)).bind _=_
    rw[stop k h1];rfl
   ·rw[h2];rfl
  ·have e:EV s (k:Int)=cond (cin 1 c) (some (.nx ((k+1:Nat):Int))) (cond (([47,47]:List UInt8).isPrefixOf (s.data.toList.drop k)) (some (.nx ((k+Sy (s.data.toList.drop k):Nat):Int))) (some (.rt (k:Int)))):=by
    unfold EV
    rw[En (by omega),UO,h2]
    dsimp only[cond,bjW]
    rw[aDI,Cg (by omega)]
    dsimp only
    rw[yY hs hl (show(adV).data.toList.length<=100000 by decide)]
    rw[show(adV).data.toList=[47,47] from rfl]
    dsimp only
    rw[BB (aQZ hs _ k (aWP _) hl)]
    rfl
   cases hw:cin 1 c with
   |true=>
    obtain⟨r,h4,h5⟩:=ih (k+1) (by omega) (by omega)
    refine⟨r,?_,?_⟩
    ·show(EV s (k:Int)).bind _=_
     rw[e,hw]
     exact h4
    ·have:k+Kh false (s.data.toList.drop k)=k+1+Kh false (s.data.toList.drop (k+1)):=by
      rw[h3]
      show k+(if false=true then _ else if cin 1 c=true then 1+Kh false (s.data.toList.drop (k+1)) else _)=_
      rw[if_neg (by simp),if_pos hw];omega
     rw[this];exact h5
   |false=>
    cases hp:([47,47]:List UInt8).isPrefixOf (s.data.toList.drop k) with
    |false=>
     refine⟨.inr (k:Int),?_,.inr ?_⟩
     ·show(EV s (k:Int)).bind _=_
      rw[e,hw,hp];rfl
     ·rw[wN _ (by rw[h3];exact hw) hp];rfl
    |true=>
     have hl2:1<=Sy (s.data.toList.drop k):=by
      rw[h3] at hp ⊢
      rw[Zh]
      have:c=47:=by
       have:=hp
       simp only[List.isPrefixOf,bhB] at this
       exact(eq_of_beq this.1).symm
      rw[this,if_neg (by decide)];omega
     have hl3:=asZ (s.data.toList.drop k)
     rw[bhI] at hl3
     obtain⟨r,h4,h5⟩:=ih (k+Sy (s.data.toList.drop k)) (by omega) (by omega)
     refine⟨r,?_,?_⟩
     ·show(EV s (k:Int)).bind _=_
      rw[e,hw,hp]
      exact h4
     ·have:k+Kh false (s.data.toList.drop k)=k+Sy (s.data.toList.drop k)+Kh false (s.data.toList.drop (k+Sy (s.data.toList.drop k))):=by
       rw[Z5 _ hp,akW,biU];omega
      rw[this];exact h5
theorem avH{k:Nat}(hk:k<=s.data.toList.length):KV s (k:Int)=some ((k+HV (s.data.toList.drop k):Nat):Int):=by
 obtain⟨r,h1,h2⟩:=amF hs _ k (aWP _) hk
 unfold KV
 rw[BB h1,Uu]
 rcases h2 with rfl | rfl<;>rfl
omit hs in
theorem aNA(t:List UInt8):Il t=(decide (10<=t.length)&&(bqQ 0 10).all (I5 t)):=by unfold Il;rw[List.range_eq_range']
theorem aQY{k:Nat}(hk:k<=s.data.toList.length):PA s (k:Int)=some (Il (s.data.toList.drop k)):=by
 rw[aNA]
 unfold PA
 rw[FW (by omega),bhI]
 by_cases hl:10<=s.data.toList.length - k
 ·rw[Dv (by omega),decide_eq_true hl]
  dsimp only[cond]
  rw[boB]
  have rnd:∀i:Nat,i < 10->IU s (k:Int) (i:Int)=if I5 (s.data.toList.drop k) i=true then some (.nx ((i+1:Nat):Int)) else some (.rt false):=by
   intro i hi
   obtain⟨c,hc⟩:∃c,s.data.toList[k+i]?=some c:=⟨_,aBD (by omega)⟩
   have hc2:(s.data.toList.drop k)[i]?=some c:=by rw[List.getElem?_drop];exact hc
   unfold IU
   rw[En (by omega),Cg (by omega),show(k:Int)+(i:Int)=((k+i:Nat):Int) by omega,UO,hc]
   dsimp only[cond,bjW]
   rw[aNE,tL,Cg (by omega)]
   have e:(some c == some (45:UInt8))=(c == 45):=rfl
   have aVF:i=4\/i=7->I5 (s.data.toList.drop k) i=(c == 45):=λh=>by
    unfold I5
    rw[if_pos h,hc2,e]
   by_cases h4:i=4
   ·rw[C4 (by omega),aVF (Or.inl h4)]
    cases c == 45<;>rfl
   rw[DE (by omega)]
   by_cases h7:i=7
   ·rw[C4 (by omega),aVF (Or.inr h7)]
    cases c == 45<;>rfl
   rw[DE (by omega)]
   have dg:I5 (s.data.toList.drop k) i=cin 8 c:=by
    unfold I5
    rw[if_neg (by omega)]
    rw[<- blZ] at hc2
    cases hd:(s.data.toList.drop k).drop i with|nil=>rw[hd] at hc2;cases hc2|cons a l=>rw[hd] at hc2;cases hc2;rfl
   rw[dg]
   cases cin 8 c<;>rfl
  have key:∀d i:Nat,i+d=10->B8 (λx=>IU s (k:Int) x) (d+1) (i:Int)=some (if (bqQ i d).all (I5 (s.data.toList.drop k))=true then .inl () else .inr false):=by
   intro d
   induction d with
   |zero=>
    intro i hi
    show(IU s (k:Int) (i:Int)).bind _=_
    unfold IU
    rw[Dv (by omega)];rfl
   |succ d ih=>
    intro i hi
    show(IU s (k:Int) (i:Int)).bind _=_
    rw[rnd i (by omega),List.range'_succ,bmQ]
    by_cases hd:I5 (s.data.toList.drop k) i=true
    ·rw[if_pos hd,hd,boB]
     exact ih (i+1) (by omega)
    ·rw[if_neg hd,bpL.2 hd];rfl
  have:=key 10 0 rfl
  rw[show((0:Nat):Int)=0 from rfl] at this
  rw[BB this,Uu]
  cases (bqQ 0 10).all (I5 (s.data.toList.drop k))<;>rfl
 ·rw[En (by omega),decide_eq_false hl];rfl
end
theorem amM(t:List UInt8)(h:JC 8 t=false):Bf 8 t=0:=by cases t with|nil=>rfl|cons c t=>rw[FU,if_neg (by have:cin 8 c=false:=h;simp[this])]
theorem awN(u:List UInt8)(hf:free (u.drop 2)=true)(h1:JC 8 u=true)(h2:JC 8 (u.drop 1)=true):Bf 8 u=2:=by
 match u,h1,h2 with
 |[c],_,h2=>simp[JC] at h2
 |c::d::v,h1,h2=>
  have e1:cin 8 c=true:=h1;have e2:cin 8 d=true:=h2;rw[FU,if_pos e1,FU,if_pos e2]
  have e3:Bf 8 v=0:=by
   apply amM;cases v with
   |nil=>rfl
   |cons x v=>
    have lM:free (x::v)=true:=hf;unfold free JC at lM;dsimp only at lM;rw[apJ] at lM;show cin 8 x=false;cases hx:cin 8 x with|false=>rfl|true=>rw[hx] at lM;simp at lM
  omega
theorem ayA(u:List UInt8)(h:Bf 8 u=2):JC 8 u=true/\JC 8 (u.drop 1)=true:=by
 match u,h with
 |[],h=>simp[ZI] at h
 |[c],h=>
  rw[FU] at h;split at h;rw[ZI] at h;omega;omega
 |c::d::v,h=>
  rw[FU] at h;by_cases hc:cin 8 c=true;rw[if_pos hc,FU] at h;by_cases hd:cin 8 d=true;exact⟨hc,hd⟩;rw[if_neg hd] at h;omega;rw[if_neg hc] at h;omega
theorem acL(t:List UInt8)(d e:Nat)(hd:d=Bf 8 t)(he:e=Bf 8 (t.drop (d+1)))(hn:Il t=false)(lV:(t.drop d).head?=some 46) :
   Ik t=if ¬(t.head?=some 48/\1 < d)/\d<=10/\e=2/\free (t.drop (d+3))=true then (4,d+3) else (0,0):=by
 unfold Ik;simp only[hn,biF,if_false,<- hd];by_cases h1:t.head?=some 48/\1 < d;rw[if_pos h1,if_neg (λh=>h.1 h1)];rw[if_neg h1,if_pos lV];by_cases h2:10 < d\/JC 8 (t.drop (d+1))=false\/JC 8 (t.drop (d+2))=false;rw[if_pos h2,if_neg];rintro⟨_,h3,h4,_⟩;rw[he] at h4;have:=ayA _ h4;rw[biU] at this;rcases h2 with h | h | h
 omega;rw[h] at this;simp at this;rw[show d+1+1=d+2 from rfl,h] at this;simp at this;rw[if_neg h2]
 have i1:JC 8 (t.drop (d+1))=true:=by cases hh:JC 8 (t.drop (d+1)) with|true=>rfl|false=>exact absurd (.inr (.inl hh)) h2
 have i2:JC 8 (t.drop (d+2))=true:=by cases hh:JC 8 (t.drop (d+2)) with|true=>rfl|false=>exact absurd (.inr (.inr hh)) h2
 by_cases h3:free (t.drop (d+3))=true
 have h5:e=2:=by rw[he];refine awN _ ?_ i1 ?_;rw[biU];exact h3;rw[biU];exact i2
 rw[if_pos h3,if_pos ⟨h1,by omega,h5,h3⟩];rw[if_neg h3,if_neg (λh=>h3 h.2.2.2)]
theorem acM(t:List UInt8)(d:Nat)(hd:d=Bf 8 t)(hn:Il t=false)(lV:¬(t.drop d).head?=some 46) :
   Ik t=if ¬(t.head?=some 48/\1 < d)/\d<=12/\free (t.drop d)=true then (3,d) else (0,0):=by
 unfold Ik;simp only[hn,biF,if_false,<- hd];by_cases h1:t.head?=some 48/\1 < d;rw[if_pos h1,if_neg (λh=>h.1 h1)];rw[if_neg h1,if_neg lV];by_cases h2:12 < d;rw[if_pos h2,if_neg (λh=>by omega)];rw[if_neg h2];by_cases h3:free (t.drop d)=true;rw[if_pos h3,if_pos ⟨h1,by omega,h3⟩];rw[if_neg h3,if_neg (λh=>h3 h.2.2)]
def Nf(r:Nat×Nat)(t:List UInt8)(k:Nat)(x:Tk×Bool):Prop:=(x.2=true->r.1≠0/\x.1=Ju (r.1,t.take r.2,k))/\(x.2=false->r.1=0)
theorem Nf.no{t:List UInt8}{k:Nat}{x:Tk}:Nf (0,0) t k (x,false):=⟨λh=>(by cases h),λ_=>rfl⟩
theorem Nf.yes{q n:Nat}(hq:q≠0){t:List UInt8}{k:Nat}:Nf (q,n) t k (Ju (q,t.take n,k),true):=⟨λ_=>⟨hq,rfl⟩,λh=>(by cases h)⟩
theorem Nf.if{p:Prop}[Decidable p]{b:Bool}(hp:p↔b=true){q n:Nat}(hq:q≠0){t:List UInt8}{k:Nat}:Nf (if p then (q,n) else (0,0)) t k (Ju (q,t.take n,k),b):=by cases b;rw[if_neg (λh=>by cases hp.1 h)];exact Nf.no;rw[if_pos (hp.2 rfl)];exact Nf.yes hq
section
variable {s:ByteArray}(hs:s.data.toList.length<=100000)
include hs
theorem auK{k d e:Nat}(hk:k+d<=s.data.toList.length)(he:e=Bf 8 ((s.data.toList.drop k).drop (d+1)))(A:Int->ByteArray->Option (Tk×Bool))(B:ByteArray->Option (Tk×Bool)) :
   cond (Cy ((k+d:Nat):Int) ((s.data.toList.length:Nat):Int)) ((Dk s.data.toList ((k+d:Nat):Int)).bind λc=>cond (A8 ((c.toNat:Nat):Int) 46) ((FR s (A1 ((k+d:Nat):Int) 1)).bind λy6=>(SN s (k:Int) y6).bind λs7=>A y6 s7) ((SN s (k:Int) ((k+d:Nat):Int)).bind λs9=>B s9)) ((SN s (k:Int) ((k+d:Nat):Int)).bind λs11=>B s11)
     = if ((s.data.toList.drop k).drop d).head?=some 46 then A ((k+(d+1+e):Nat):Int) ⟨((s.data.toList.drop k).take (d+1+e)).toArray⟩ else B ⟨((s.data.toList.drop k).take d).toArray⟩:=by
 rw[SO (by omega) hk,show k+d - k=d by omega];rcases Nt s.data.toList (k+d) with ⟨h1,h2⟩ | ⟨c,h1,h2,h3⟩
 rw[Dv (by omega),biU,h2,if_neg (by simp)];rfl;rw[En (by omega),UO,h2,biU,h3,boJ];dsimp only[cond,bjW];rw[aqE];by_cases hc:c=46;subst hc;rw[if_pos rfl,Cg (by omega),show((k+d:Nat):Int)+1=((k+d+1:Nat):Int) by omega,yZ hs (by omega)];have e1:k+d+1+Bf 8 (s.data.toList.drop (k+d+1))=k+(d+1+e):=by rw[he,biU,blB k d 1];omega
 rw[e1];have e2:=NY 8 ((s.data.toList.drop k).drop (d+1));rw[<- he,biU,bhI] at e2;dsimp only;rw[SO (by omega) (by omega),show k+(d+1+e) - k=d+1+e by omega];rfl;rw[if_neg (by simpa using hc)]
 have:(c == 46)=false:=beq_false_of_ne hc;rw[this]
theorem amE{k:Nat}(hk:k < s.data.toList.length)(h8:JC 8 (s.data.toList.drop k)=true):∃x,L3 s (k:Int)=some x/\Nf (Ik (s.data.toList.drop k)) (s.data.toList.drop k) k x:=by
 unfold L3;rw[aQY hs (by omega),Uu];generalize ht:s.data.toList.drop k=t at *;have hlt:t.length=s.data.toList.length - k:=by rw[<- ht,bhI]
 cases hd:Il t with
 |true=>
  have hl10:10<=t.length:=by unfold Il at hd;rw[bhB] at hd;exact of_decide_eq_true hd.1
  dsimp only[cond];rw[Cg (by omega),show(k:Int)+10=((k+10:Nat):Int) by omega,SO (by omega) (by omega),Uu,adW (by omega),Uu,show k+10 - k=10 by omega,ht];refine⟨_,rfl,?_⟩;unfold Ik;rw[if_pos hd,<- biU,ht];exact Nf.if Iff.rfl (by decide)
 |false=>
  rw[cond_false,yZ hs (by omega),Uu,ht];generalize hde:Bf 8 t=d at *;have hd1:1<=d:=by rw[<- hde];exact X8 8 t h8
  have hdl:d<=t.length:=by rw[<- hde];exact NY 8 t
  obtain⟨e,he⟩:∃e,e=Bf 8 ((s.data.toList.drop k).drop (d+1)):=⟨_,rfl⟩;have tail:=auK hs (k:=k) (d:=d) (e:=e) (by omega) he;rw[ht] at tail he;have hel:=NY 8 (t.drop (d+1));rw[<- he,bhI] at hel;rw[Cg (a:=(k:Int)) (by omega)];obtain⟨c,hc⟩:∃c,s.data.toList[k]?=some c:=⟨_,aBD hk⟩;have hh:t.head?=some c:=by rw[<- ht,blZ];exact hc
  have aWD:¬(t.head?=some 48/\1 < d)->∃x,(if (t.drop d).head?=some 46 then
   (cond (My (Jq ((k+d:Nat):Int) (k:Int)) 10) (cond (A8 ((k+(d+1+e):Nat):Int) (A1 ((k+d:Nat):Int) 3)) ((Eu s ((k+(d+1+e):Nat):Int)).bind λy8=>some ((⟨4,⟨(t.take (d+1+e)).toArray⟩,(k:Int)⟩:Tk),y8)) (some ((⟨4,⟨(t.take (d+1+e)).toArray⟩,(k:Int)⟩:Tk),false))) (some ((⟨4,⟨(t.take (d+1+e)).toArray⟩,(k:Int)⟩:Tk),false)))
   else (cond (My (Jq ((k+d:Nat):Int) (k:Int)) 12) ((Eu s ((k+d:Nat):Int)).bind λcJ=>some ((⟨3,⟨(t.take d).toArray⟩,(k:Int)⟩:Tk),cJ)) (some ((⟨3,⟨(t.take d).toArray⟩,(k:Int)⟩:Tk),false))))=some x/\Nf (Ik t) t k x:=by
   intro h0;rw[FW (by omega),show((k+d:Nat):Int) - (k:Int)=(d:Int) by omega];by_cases lV:(t.drop d).head?=some 46;rw[if_pos lV,acL t d e hde.symm he hd lV]
   have bhL:d < t.length:=by
    rcases blM d t.length with h | h
    exact h;rw[biX h] at lV;cases lV
   by_cases h1:d<=10;rw[T6 (by omega),Cg (by omega)];dsimp only[cond];by_cases h2:e=2;subst h2;rw[C4 (by omega)];dsimp only;rw[adW (by omega),Uu,<- biU,ht];refine⟨_,rfl,?_⟩;exact Nf.if (n:=d+3) ⟨λh=>h.2.2.2,λh=>⟨h0,h1,rfl,h⟩⟩ (by decide)
   rw[DE (by omega),if_neg (λh=>h2 h.2.2.1)];exact⟨_,rfl,Nf.no⟩;rw[P7 (by omega),if_neg (λh=>h1 h.2.1)];exact⟨_,rfl,Nf.no⟩;rw[if_neg lV,acM t d hde.symm hd lV];by_cases h1:d<=12;rw[T6 (by omega)];dsimp only[cond];rw[adW (by omega),Uu,<- biU,ht];refine⟨_,rfl,?_⟩;exact Nf.if ⟨λh=>h.2.2,λh=>⟨h0,h1,h⟩⟩ (by decide)
   rw[P7 (by omega),if_neg (λh=>h1 h.2.1)];exact⟨_,rfl,Nf.no⟩
  by_cases h1:d=1;rw[C4 (by omega),cond_true,tail];exact aWD (λh=>by omega);rw[DE (by omega),cond_false,UO,hc,Uu,aNF];by_cases h2:c=48;have e2:(c == 48)=true:=by rw[h2];rfl
  rw[e2,cond_true,tail (λ_ s16=>some ((⟨4,s16,(k:Int)⟩:Tk),false)) (λs17=>some ((⟨3,s17,(k:Int)⟩:Tk),false))];have h3:t.head?=some 48/\1 < d:=⟨by rw[hh,h2],by omega⟩
  have hf:Ik t=(0,0):=by unfold Ik;simp only[hd,biF,if_false];rw[hde,if_pos h3]
  rw[hf];split<;>exact⟨_,rfl,Nf.no⟩
  have e2:(c == 48)=false:=beq_false_of_ne h2;rw[e2,cond_false,tail];exact aWD (λh=>by rw[hh] at h;exact h2 (biA h.1))
omit hs in
theorem yK{p:UInt8->Bool}{v:Tk×Bool}{B:Nat}{b:Int->Option (Lp Int Unit (Tk×Bool))}(hB:B<=s.data.toList.length)(hb:∀(i:Nat) c,i < B->s.data.toList[i]?=some c->b (i:Int)=if p c then some (.nx ((i+1:Nat):Int)) else some (.rt v))(he:b (B:Int)=some (.ex ())) :
   ∀(n i:Nat),i+n=B->B8 b (n+1) (i:Int)=some (if ((s.data.toList.drop i).take n).all p then .inl () else .inr v):=by
 intro n
 induction n with
 |zero=>
  intro i hi;rw[show i=B by omega];show(b (B:Int)).bind _=_;rw[he];rfl
 |succ n ih=>
  intro i hi;obtain⟨c,hc⟩:∃c,s.data.toList[i]?=some c:=⟨_,aBD (by omega)⟩;show(b (i:Int)).bind _=_;rw[hb i c (by omega) hc];rcases Nt s.data.toList i with ⟨h1,h2⟩ | ⟨c',h1,h2,h3⟩
  omega;rw[hc] at h2;cases h2;rw[h3,bmF,bmQ];cases hp:p c;rfl;rw[boB];exact ih (i+1) (by omega)
omit hs in
theorem aaJ{m:Nat}(hm:∀c,cin m c=true->cin 30 c=true)(t:List UInt8):(Bf m t=Bf 30 t)↔(t.take (Bf 30 t)).all (cin m)=true:=by
 induction t with
 |nil=>simp[ZI]
 |cons c t ih=>
  rw[FU,FU];by_cases hc:cin 30 c=true;rw[if_pos hc,bmP 1 (Bf 30 t),bmF,bmQ];by_cases hcm:cin m c=true;rw[if_pos hcm,hcm,boB,<- ih];omega;rw[if_neg hcm,bpL.2 hcm,Bool.false_and];simp;rw[if_neg hc,if_neg (λh=>hc (hm c h))];simp
omit hs in
theorem aMD(t:List UInt8)(h:∀c∈t,cin 30 c=true):t.all (cin 26)=t.all (λc=>!cin 4 c):=by induction t with|nil=>rfl|cons c t ih=>rw[bmQ,bmQ,apI,h c (by simp),ih (λx hx=>h x (by simp[hx]))];rfl
omit hs in
theorem anC(m:Nat)(t:List UInt8):∀c∈t.take (Bf m t),cin m c=true:=by
 induction t with
 |nil=>intro c hc;simp at hc
 |cons x t ih=>
  intro c hc;rw[FU] at hc;by_cases hx:cin m x=true;rw[if_pos hx,bmP,bmF] at hc;rcases bhJ.1 hc with rfl | hc
  exact hx;exact ih c hc;rw[if_neg hx] at hc;simp at hc
theorem aRA{k:Nat}(hk:k < s.data.toList.length)(h2:JC 2 (s.data.toList.drop k)=true):∃x,PB s (k:Int)=some x/\Nf (A7 (s.data.toList.drop k)) (s.data.toList.drop k) k x:=by
 unfold PB A7;rw[if_pos h2,aKB hs (by omega),Uu];generalize hw:Bf 30 (s.data.toList.drop k)=w at *;have hwl:w<=s.data.toList.length - k:=by rw[<- hw,<- bhI];exact NY 30 _
 rw[BB (yK (s:=s) (p:=λc=>!cin 4 c) (v:=((⟨0,gT,0⟩:Tk),false)) (B:=k+w) (b:=λx=>NP s ((k+w:Nat):Int) x) (by omega) (λi c hi hc=>?_) ?_ w k rfl),Uu]
 ·have IN:(Bf 26 (s.data.toList.drop k)=w)↔((s.data.toList.drop k).take w).all (λc=>!cin 4 c)=true:=by
   rw[<- aMD _ (λc hc=>by rw[<- hw] at hc;exact anC 30 _ c hc),<- hw];exact aaJ (m:=26) (λc hc=>by rw[apI,bhB] at hc;exact hc.1) _
  cases ha:((s.data.toList.drop k).take w).all (λc=>!cin 4 c) with
  |false=>
   rw[ha] at IN;rw[if_neg (show ¬(false=true) by simp),if_neg (show ¬(w<=16/\Bf 26 (s.data.toList.drop k)=w) from λh=>by cases IN.1 h.2)];exact⟨_,rfl,Nf.no⟩
  |true=>
   rw[ha] at IN;rw[if_pos rfl];dsimp only[F0];rw[SO (by omega) (by omega),Uu,FW (by omega),show((k+w:Nat):Int) - (k:Int)=(w:Int) by omega,show k+w - k=w by omega];by_cases h16:w<=16;rw[T6 (by omega),if_pos ⟨h16,IN.2 rfl⟩];exact⟨_,rfl,Nf.yes (by decide)⟩;rw[P7 (by omega),if_neg (λh=>h16 h.1)];exact⟨_,rfl,Nf.no⟩
 unfold NP;rw[Dv (by omega)];rfl;unfold NP;rw[En (by omega),UO,hc];dsimp only[cond,bjW];rw[tM,Cg (by omega)];cases cin 4 c<;>rfl
theorem aZR{k:Nat}(hk:k < s.data.toList.length)(h2:JC 2 (s.data.toList.drop k)=false)(h4:JC 4 (s.data.toList.drop k)=true):∃x,Rl s (k:Int)=some x/\Nf (A7 (s.data.toList.drop k)) (s.data.toList.drop k) k x:=by
 unfold Rl A7;rw[if_neg (by rw[h2];simp),if_pos h4,aKB hs (by omega),Uu];generalize hw:Bf 30 (s.data.toList.drop k)=w at *;have hwl:w<=s.data.toList.length - k:=by rw[<- hw,<- bhI];exact NY 30 _
 rw[BB (yK (s:=s) (p:=λc=>cin 4 c) (v:=((⟨0,gT,0⟩:Tk),false)) (B:=k+w) (b:=λx=>Py s ((k+w:Nat):Int) x) (by omega) (λi c hi hc=>?_) ?_ w k rfl),Uu]
 ·have IN:(Bf 4 (s.data.toList.drop k)=w)↔((s.data.toList.drop k).take w).all (λc=>cin 4 c)=true:=by
   rw[<- hw];exact aaJ (m:=4) (λc hc=>by rw[apJ,hc];simp) _
  cases ha:((s.data.toList.drop k).take w).all (λc=>cin 4 c) with
  |false=>
   rw[ha] at IN;rw[if_neg (show ¬(false=true) by simp),if_neg (show ¬(w=3/\Bf 4 (s.data.toList.drop k)=w) from λh=>by cases IN.1 h.2)];exact⟨_,rfl,Nf.no⟩
  |true=>
   rw[ha] at IN;rw[if_pos rfl];dsimp only[F0];rw[SO (by omega) (by omega),Uu,FW (by omega),show((k+w:Nat):Int) - (k:Int)=(w:Int) by omega,show k+w - k=w by omega];by_cases h3:w=3;rw[C4 (by omega),if_pos ⟨h3,IN.2 rfl⟩];exact⟨_,rfl,Nf.yes (by decide)⟩;rw[DE (by omega),if_neg (λh=>h3 h.1)];exact⟨_,rfl,Nf.no⟩
 unfold Py;rw[Dv (by omega)];rfl;unfold Py;rw[En (by omega),UO,hc];dsimp only[cond,bjW];rw[tM,Cg (by omega)];cases cin 4 c<;>rfl
omit hs in
theorem avC{y t:List UInt8}(h:y.isPrefixOf t=true):t.take y.length=y:=by rw[OR] at h;exact eq_of_beq h
theorem aRB{k:Nat}(hk:k<=s.data.toList.length):∀(ys:List ByteArray)(i:Nat),(∀y∈ys,y.data.toList.length<=100000)->∃r,Bs (λi y x=>Qw s (k:Int) i y) (λx=>()) ys i ()=some r /\
 ((r=.inl ()/\(R5 (s.data.toList.drop k) (ys.map λy=>y.data.toList)).1=0)\/∃x,r=.inr x/\Nf (R5 (s.data.toList.drop k) (ys.map λy=>y.data.toList)) (s.data.toList.drop k) k x):=by
 intro ys
 induction ys with
 |nil=>intro i _;exact⟨.inl (),rfl,.inl ⟨rfl,rfl⟩⟩
 |cons y ys ih=>
  intro i hy;rw[Bs,bkF];unfold Qw R5;rw[yY hs hk (hy y (by simp)),Uu];cases hp:y.data.toList.isPrefixOf (s.data.toList.drop k) with
  |true=>
   refine⟨_,rfl,.inr ⟨_,rfl,?_⟩⟩;rw[if_pos rfl];have:=Nf.yes (q:=6) (n:=y.data.toList.length) (by decide) (t:=s.data.toList.drop k) (k:=k);rw[avC hp] at this;exact this
  |false=>
   rw[if_neg (by simp)];exact ih (i+1) (λz hz=>hy z (by simp[hz]))
theorem aDH{k:Nat}(hk:k < s.data.toList.length):∃x,NT s (k:Int)=some x/\Nf (A7 (s.data.toList.drop k)) (s.data.toList.drop k) k x:=by
 obtain⟨c,hc⟩:∃c,s.data.toList[k]?=some c:=⟨_,aBD hk⟩
 have hB:∀m,JC m (s.data.toList.drop k)=cin m c:=by
  intro m;rcases Nt s.data.toList k with ⟨h1,h2⟩ | ⟨c',h1,h2,h3⟩
  omega;rw[hc] at h2;cases h2;rw[h3];rfl
 unfold NT;rw[UO,hc,Uu,tL,Uu];cases h8:cin 8 c with
 |true=>
  obtain⟨x,h1,h2⟩:=amE hs hk (by rw[hB];exact h8);obtain⟨e2,e4⟩:=aMX c h8
  have:A7 (s.data.toList.drop k)=Ik (s.data.toList.drop k):=by unfold A7;rw[hB,hB,hB,e2,e4,h8];rfl
  dsimp only[cond];rw[h1,this];exact⟨x,rfl,h2⟩
 |false=>
  dsimp only[cond];rw[aDG,Uu];cases h2:cin 2 c with
  |true=>
   obtain⟨x,e1,e2⟩:=aRA hs hk (by rw[hB];exact h2);dsimp only;rw[e1];exact⟨x,rfl,e2⟩
  |false=>
   dsimp only;rw[tM,Uu];cases h4:cin 4 c with
   |true=>
    obtain⟨x,e1,e2⟩:=aZR hs hk (by rw[hB];exact h2) (by rw[hB];exact h4);dsimp only;rw[e1];exact⟨x,rfl,e2⟩
   |false=>
    have:A7 (s.data.toList.drop k)=R5 (s.data.toList.drop k) G4:=by unfold A7;rw[hB,hB,hB,h2,h4,h8];rfl
    obtain⟨r,e1,e2⟩:=aRB hs (k:=k) (by omega) [Ec,ES,EE,IT,ID,Md,Mc,J5,Oz,DP,Ni,NB,bJ,Vb,Va,Jv,KG] 0 (by decide);have e3:(([Ec,ES,EE,IT,ID,Md,Mc,J5,Oz,DP,Ni,NB,bJ,Vb,Va,Jv,KG]:List ByteArray).map λy=>y.data.toList)=G4:=rfl;rw[e3] at e2;rw[this];dsimp only;unfold OZ;rw[Uu,biT,L9 (by decide),e1,Uu];rcases e2 with ⟨rfl,e2⟩ | ⟨x,rfl,e2⟩
    exact⟨_,rfl,⟨λh=>(by cases h),λ_=>e2⟩⟩;exact⟨x,rfl,e2⟩
end
theorem auW(s:List UInt8)(k:Nat)(pre:List LexS.Tok)(h:k < s.length)(hp:pre.length=2000):FC pre (GW s k)=([],2,k):=by by_cases hz:(A7 (s.drop k)).1=0;rw[Vu s k h hz,FC,if_pos hp];rw[Vv s k h hz,FC,if_pos hp]
theorem aCQ(s:List UInt8)(k:Nat)(pre:List LexS.Tok)(h:k < s.length)(hp:¬pre.length=2000)(hz:(A7 (s.drop k)).1=0):FC pre (GW s k)=([],61,k):=by rw[Vu s k h hz,FC,if_neg hp,if_pos rfl]
theorem aCS(s:List UInt8)(k:Nat)(pre:List LexS.Tok)(h:k < s.length)(hp:¬pre.length=2000)(hz:(A7 (s.drop k)).1≠0):FC pre (GW s k)=FC (pre++[((A7 (s.drop k)).1,(s.drop k).take (A7 (s.drop k)).2,k)]) (GW s (k+(A7 (s.drop k)).2+HV (s.drop (k+(A7 (s.drop k)).2)))):=by rw[Vv s k h hz,FC,if_neg hp,if_neg hz]
theorem aCR(s:List UInt8)(k:Nat)(pre:List LexS.Tok)(h:s.length<=k):FC pre (GW s k)=(pre,0,0):=by rw[aV s k h,FC]
def aYO(x:List LexS.Tok×Nat×Nat):List Tk×Int×Int:=(x.1.map Ju,(x.2.1:Int),(x.2.2:Int))
theorem avG{s:ByteArray}(hs:s.data.toList.length<=6000):∀(j k:Nat)(pre:List LexS.Tok),s.data.toList.length - k<=j->k<=s.data.toList.length->pre.length<=2000->∃r:List Tk⊕(List Tk×Int×Int),B8 (λx:List Tk×Int=>C6 s x.1 x.2) (j+1) (pre.map Ju,(k:Int))=some r /\
 F0 (λ(o:List Tk)=>some (o,(0:Int),(0:Int))) (λv=>some v) r=some (aYO (FC pre (GW s.data.toList k))):=by
 have fin:∀(j k:Nat)(pre:List LexS.Tok),s.data.toList.length<=k->∃r:List Tk⊕(List Tk×Int×Int),B8 (λx:List Tk×Int=>C6 s x.1 x.2) (j+1) (pre.map Ju,(k:Int))=some r /\
  F0 (λ(o:List Tk)=>some (o,(0:Int),(0:Int))) (λv=>some v) r=some (aYO (FC pre (GW s.data.toList k))):=by
  intro j k pre h;refine⟨.inl (pre.map Ju),?_,?_⟩;show(C6 s (pre.map Ju) (k:Int)).bind _=_;unfold C6;rw[Dv (by omega)];rfl;rw[aCR _ _ _ h];rfl
 intro j
 induction j with
 |zero=>intro k pre hk hl hp;exact fin 0 k pre (by omega)
 |succ j ih=>
  intro k pre hk hl hp;rcases blM k s.data.toList.length with h | h
  rotate_left;exact fin _ k pre h
  have go:∀{y:Lp (List Tk×Int) (List Tk) (List Tk×Int×Int)},C6 s (pre.map Ju) (k:Int)=some y->B8 (λx:List Tk×Int=>C6 s x.1 x.2) (j+1+1) (pre.map Ju,(k:Int))=MK (B8 (λx:List Tk×Int=>C6 s x.1 x.2) (j+1)) y:=by intro y hy;show(C6 s (pre.map Ju) (k:Int)).bind _=_;rw[hy];rfl
  by_cases hf:pre.length=2000
  have:C6 s (pre.map Ju) (k:Int)=some (.rt ([],2,(k:Int))):=by unfold C6;rw[En (by omega),biE,C4 (by omega)];rfl
  refine⟨.inr ([],2,(k:Int)),(go this).trans rfl,?_⟩;rw[auW _ _ _ h hf];rfl;obtain⟨x,h1,h2,h3⟩:=aDH (s:=s) (by omega) h;cases hx:x.2 with
  |false=>
   have:C6 s (pre.map Ju) (k:Int)=some (.rt ([],61,(k:Int))):=by unfold C6;rw[En (by omega),biE,DE (by omega),h1];dsimp only[cond,bjW];rw[hx]
   refine⟨.inr ([],61,(k:Int)),(go this).trans rfl,?_⟩;rw[aCQ _ _ _ h hf (h3 hx)];rfl
  |true=>
   obtain⟨h4,h5⟩:=h2 hx;have hrp:=Vc _ h4;have hle:(s.data.toList.drop k).length=s.data.toList.length - k:=bhI ..;generalize hn:(A7 (s.data.toList.drop k)).2=n at *;have hsk:=VH (s.data.toList.drop (k+n));rw[bhI] at hsk
   have htl:x.1.text.data.toList.length=n:=by rw[h5];show((s.data.toList.drop k).take n).length=n;rw[biM];omega
   have:C6 s (pre.map Ju) (k:Int)=some (.nx ((pre++[((A7 (s.data.toList.drop k)).1,(s.data.toList.drop k).take n,k)]).map Ju,((k+n+HV (s.data.toList.drop (k+n)):Nat):Int))):=by unfold C6;rw[En (by omega),biE,DE (by omega),h1];dsimp only[cond,bjW];rw[hx];dsimp only;rw[htl,Cg (by omega),show(k:Int)+(n:Int)=((k+n:Nat):Int) by omega,B1 (by omega),avH (by omega) (by omega)];dsimp only;rw[h5,List.map_append];rfl
   obtain⟨r,e1,e2⟩:=ih (k+n+HV (s.data.toList.drop (k+n))) (pre++[((A7 (s.data.toList.drop k)).1,(s.data.toList.drop k).take n,k)]) (by omega) (by omega) (by simp only[aWQ,bhF];omega);refine⟨r,(go this).trans e1,?_⟩;rw[e2,aCS _ _ _ h hf h4,hn]
theorem aRF(s:ByteArray):KH s=Iz s:=by unfold KH Iz Of;by_cases h:6000 < s.data.toList.length;rw[En (by omega),if_pos h];rfl;rw[Dv (by omega),if_neg h];dsimp only[cond];have h0:=avH (s:=s) (k:=0) (by omega) (bjI _);rw[show((0:Nat):Int)=0 from rfl,biT,bhC] at h0;have:=VH s.data.toList;obtain⟨r,e1,e2⟩:=avG (s:=s) (by omega) s.data.toList.length (HV s.data.toList) [] (by omega) (by omega) (by simp);rw[List.map_nil] at e1;rw[h0,Uu,pP,BB e1,Uu];exact e2
theorem ahW(s:ByteArray):KH s=some (Ey s,(Uf s:Int),(aPT s:Int)):=aRF s
end Mo
end Go.Proofs.YtpbkhogolfegfaaGreatDoor
namespace Go.Proofs.YtpbkhogolfegfaaGreatDoor
open AI Go
namespace Mo
theorem asE(x:ByteArray):Ee [Ic,GA,Cp] x=some (Bd x.data.toList Ic.data.toList||(Bd x.data.toList GA.data.toList||Bd x.data.toList Cp.data.toList)):=by
 have key:∀(m:List ByteArray)(i:Nat),Bs (λi y (_:Unit)=>Ms x i y) (λx=>()) m i ()=some (cond (m.any λy=>Bd y.data.toList x.data.toList) (.inr true) (.inl ())):=by
  intro m
  induction m with
  |nil=>intro i;rfl
  |cons y m ih=>
   intro i;unfold Bs;rw[bnH];unfold Ms;cases h:Bd y.data.toList x.data.toList with|true=>rfl|false=>exact ih _
 unfold Ee;rw[biT,key,L9 (by decide)];simp only[bnH,List.any_nil,Bool.or_false];rw[Q7 Ic.data.toList,Q7 GA.data.toList,Q7 Cp.data.toList];cases Bd x.data.toList Ic.data.toList||(Bd x.data.toList GA.data.toList||Bd x.data.toList Cp.data.toList)<;>rfl
theorem iW{t:Tk}(h:Wo t):OQ t=false:=by
 have f:∀x∈[Ic,GA,Cp],Bd t.text.data.toList x.data.toList=false:=λx hx=>by
  cases hq:Bd t.text.data.toList x.data.toList with
  |false=>rfl
  |true=>
   rw[RC] at hq;exact absurd (eq_of_beq hq) (h x hx)
 unfold OQ;rw[f Ic (by simp),f GA (by simp),f Cp (by simp)];rfl
section
variable {L:List Tk}(hL:L.length<=10000)
include hL
theorem aWA{ea:Int}:∀(j k:Nat),k<=L.length->L.length - k<=j->(∀t∈L.drop k,ea<=t.AO)->∃n k':Nat,k'<=L.length/\LP (L.drop k)=L.drop k'/\B8 (λx=>DA L ea x) n (k:Int)=some (.inl (k':Int)):=by
 have stop:∀{k:Nat}{y:Int},DA L ea (k:Int)=some (.ex y)->B8 (λx=>DA L ea x) 1 (k:Int)=some (.inl y):=by intro k y h;show(DA L ea (k:Int)).bind _=_;rw[h];rfl
 intro j
 induction j with
 |zero=>
  intro k hk hj _;have:k=L.length:=by omega
  refine⟨1,k,hk,?_,stop ?_⟩;rw[biX (by omega)];rfl;unfold DA;rw[Dv (by omega)];rfl
 |succ j ih=>
  intro k hk hj ho;cases h:L.drop k with
  |nil=>
   have:=PW h;refine⟨1,k,hk,h.symm▸rfl,stop ?_⟩;unfold DA;rw[Dv (by omega)];rfl
  |cons t s=>
   obtain⟨h1,h2,h3⟩:=CS h;have hle:ea<=t.AO:=ho t (by rw[h];exact biK ..)
   have Dc:DA L ea (k:Int)=cond (OQ t) (some (.ex (k:Int))) (some (.nx ((k+1:Nat):Int))):=by unfold DA OQ;rw[En (by omega),EB,h2];simp only[cond,Uu];rw[Dv (by omega),asE];simp only[Uu];rw[wk1 h1 hL]
   cases hi:OQ t with
   |true=>
    rw[hi] at Dc;refine⟨1,k,hk,?_,stop Dc⟩;unfold LP;rw[hi,if_pos rfl,h]
   |false=>
    rw[hi] at Dc;obtain⟨n,k',a1,a2,a3⟩:=ih (k+1) h1 (by omega) (λu hu=>ho u (by rw[h];rw[h3] at hu;exact biB _ hu));refine⟨n+1,k',a1,?_,?_⟩;unfold LP;rw[hi,if_neg (by decide),<- h3];exact a2;show(DA L ea (k:Int)).bind _=_;rw[Dc];exact a3
omit hL in
theorem dP{hi:Int}:∀{l:List Tk}(k:Nat),So hi l->So hi (l.drop k)
 |[],_,_=>by rw[List.drop_nil];exact trivial
 |_::_,0,h=>h
 |_::_,k+1,h=>dP k h.2.2
omit hL in
theorem awM{hi:Int}{t:Tk}{s:List Tk}(h:So hi (t::s)):∀u∈t::s,t.AO<=u.AO:=λu hu=>by
 rcases bhJ.1 hu with rfl | hu
 exact boH _;exact h.2.1 u hu
theorem aML{hi en:Int}{l:List Tk}{d:Dg}{k:Nat}(hk:k<=L.length)(hs:So hi L)(he:Er L en k l d):∃n j m k2:Nat,B8 (λx=>Dz L d.AO x) n (k:Int)=some (.inl (j:Int))/\B8 (λx=>DA L d.AO x) m (j:Int)=some (.inl (k2:Int))/\k2<=L.length/\LP l=L.drop k2:=by
 have stop:∀{k:Nat},Dz L d.AO (k:Int)=some (.ex (k:Int))->B8 (λx=>Dz L d.AO x) 1 (k:Int)=some (.inl (k:Int)):=by intro k h;show(Dz L d.AO (k:Int)).bind _=_;rw[h];rfl
 have l2:∀k:Nat,k<=L.length->(∀t,L[k]?=some t->t.AO<=d.AO)->Dz L d.AO (k:Int)=some (.ex (k:Int)):=λk hk h=>by
  unfold Dz;cases h0:Cy 0 (k:Int) with
  |false=>rfl
  |true=>
   simp only[cond];cases h1:Cy (k:Int) ((L.length:Nat):Int) with
   |false=>rfl
   |true=>
    have h1:=iR h1;rw[EB,aBD (by omega)];simp only[Uu];have:=h _ (aBD (by omega));rw[Dv (by omega)]
 have fw:∀j:Nat,j<=L.length->(∀u∈L.drop j,d.AO<=u.AO)->LP (L.drop j)=LP l->(∃n,B8 (λx=>Dz L d.AO x) n (k:Int)=some (.inl (j:Int)))->∃n j m k2:Nat,B8 (λx=>Dz L d.AO x) n (k:Int)=some (.inl (j:Int))/\B8 (λx=>DA L d.AO x) m (j:Int)=some (.inl (k2:Int))/\k2<=L.length/\LP l=L.drop k2:=λj hj ho hsk ⟨n,hn⟩=>by
  obtain⟨m,k2,a1,a2,a3⟩:=aWA hL (L.length - j) j hj (aWP _) ho;exact⟨n,j,m,k2,hn,a3,a1,by rw[<- hsk];exact a2⟩
 rcases he with ⟨rfl,ha⟩ | ⟨rfl,j,t,rfl,h1,h2,h3⟩ | ⟨t,h1,h2,h3⟩
 ·-- at the next token
  refine fw k hk ?_ rfl ⟨1,stop (l2 k hk λt ht=>?_)⟩
  ·intro u hu
   cases h:L.drop k with
   |nil=>rw[h] at hu;cases hu
   |cons t s=>
    have:=dP k hs;rw[h] at hu this ha;rw[ha];exact awM this u hu
  have hlt:k < L.length:=(aBC.1 ht).1;rw[ha,bjH hlt];rw[aBD hlt] at ht;rw[<- biA ht];exact boH _
 ·-- at the token ahead of it
  have hj:j < L.length:=(aBC.1 h1).1
  have hd:L.drop j=t::L.drop (j+1):=by rw[bjH hj];rw[aBD hj] at h1;rw[biA h1]
  have Z8:=dP j hs;rw[hd] at Z8;have hge:∀u∈L.drop (j+1),d.AO<=u.AO:=λu hu=>by rw[<- h2];exact Z8.2.1 u hu
  by_cases hq:∃u,L[j+1]?=some u/\d.AO < u.AO
  ·obtain⟨u,hu,hlt⟩:=hq
   refine fw j (by omega) ?_ ?_ ⟨2,?_⟩;intro v hv;rw[hd] at hv;rw[<- h2];exact awM Z8 v hv;rw[hd];rw[LP,iW h3,if_neg (by decide)]
   ·have hj1:j+1 < L.length:=(aBC.1 hu).1
    have e1:Dz L d.AO ((j+1:Nat):Int)=some (.nx (j:Int)):=by unfold Dz;rw[En (by omega),En (by omega),EB,hu];simp only[cond,Uu];rw[En hlt,FW (by omega)];simp only;rw[show((j+1:Nat):Int) - 1=(j:Int) by omega]
    show(Dz L d.AO ((j+1:Nat):Int)).bind _=_;rw[e1]
    exact stop (l2 j (by omega) λv hv=>by
     rw[h1] at hv;rw[<- biA hv,h2];exact boH _)
  ·refine fw (j+1) hk hge rfl ⟨1,stop (l2 (j+1) hk λv hv=>?_)⟩
   by_cases hle:v.AO<=d.AO;exact hle;exact absurd ⟨v,hv,by omega⟩ hq
 ·-- the bbJ have bbK the next token too
  obtain⟨g1,g2,g3⟩:=CS h1;have Z8:=dP k hs;rw[h1] at Z8;refine fw k hk ?_ ?_ ⟨1,stop (l2 k hk λv hv=>?_)⟩;intro v hv;rw[h1] at hv;rw[<- h2];exact awM Z8 v hv;rw[h1,LP,iW h3,if_neg (by decide)];rw[g2] at hv;rw[<- biA hv,h2];exact boH _
theorem aRM{source:ByteArray}(hw:∀t∈L,Rg t){hi:Int}(hs:So hi L):∀(q k:Nat)(ks:List Nd)(ds:List Dg)(e ea:Int)(r:List Nd×List Dg),k<=L.length->ks.length+ds.length+q<=100000->ZQ ((source.data.toList.length:Nat):Int) q (L.drop k) ks ds=some r ->
 ∃(n k':Nat)(e' CF:Int),B8 (λx:List Dg×List Nd×Int×Int×Int=>CG source L x.1 x.2.1 x.2.2.1 x.2.2.2.1 x.2.2.2.2) n (ds,ks,(k:Int),e,ea)=some (.inl (r.2,r.1,(k':Int),e',CF)):=by
 intro q
 induction q with
 |zero=>intro k ks ds e ea r hk hq h;cases h
 |succ q ih=>
  intro k ks ds e ea r hk hq h
  have stop:CG source L ds ks (k:Int) e ea=some (.ex (ds,ks,(k:Int),e,ea))->B8 (λx:List Dg×List Nd×Int×Int×Int=>CG source L x.1 x.2.1 x.2.2.1 x.2.2.2.1 x.2.2.2.2) 1 (ds,ks,(k:Int),e,ea)=some (.inl (ds,ks,(k:Int),e,ea)):=by intro h;show(CG source L ds ks (k:Int) e ea).bind _=_;rw[h];rfl
  cases hd:L.drop k with
  |nil=>
   have:=PW hd;rw[hd] at h;have:r=(ks,ds):=(biA h).symm;subst this;refine⟨1,k,e,ea,stop ?_⟩;unfold CG;rw[Dv (by omega)];rfl
  |cons t s=>
   obtain⟨h1,h2,h3⟩:=CS hd;rw[hd] at h;unfold ZQ at h;rw[<- hd] at h;cases h20:Cy ((ds.length:Nat):Int) 20 with
   |false=>
    rw[h20] at h;have:r=(ks,ds):=(biA h).symm;subst this;refine⟨1,k,e,ea,stop ?_⟩;unfold CG;rw[En (by omega),h20];rfl
   |true=>
    rw[h20] at h;simp only[cond] at h;split at h;cases h;rename_i n s hi;obtain⟨k1,a1,a2,rfl,b,rfl,a4⟩:=asH (ea:=ea) hw hL hk hi;obtain⟨m,k',e',CF,b1⟩:=ih k1 (ks++[n]) ds 0 ea r a2 (by simp only[aWQ,bhF];omega) h;refine⟨m+1,k',e',CF,?_⟩
    have Dc:CG source L ds ks (k:Int) e ea=some (.nx (ds,ks++[n],(k1:Int),0,ea)):=by unfold CG;dsimp only[Pz] at a4;rw[En (by omega),h20,a4];simp only[cond,Uu];rw[C4 rfl,B1 (by omega)]
    show(CG source L ds ks (k:Int) e ea).bind _=_;rw[Dc];exact b1;rename_i d s hi;obtain⟨k1,a1,a2,a3,a4,v,a5⟩:=asH (ea:=ea) hw hL hk hi;obtain⟨n1,j,n2,k2,c1,c2,c3,c4⟩:=aML hL a2 hs a4;rw[c4] at h;obtain⟨m,k',e',CF,b1⟩:=ih k2 ks (ds++[d]) d.err d.AO r c3 (by simp only[aWQ,bhF];omega) h;refine⟨m+1,k',e',CF,?_⟩
    have Dc:CG source L ds ks (k:Int) e ea=some (.nx (ds++[d],ks,(k2:Int),d.err,d.AO)):=by unfold CG;dsimp only[Pz] at a5;rw[En (by omega),h20,a5];simp only[cond,Uu];rw[DE a3];simp only;rw[B1 (by omega),BB c1];simp only[Uu,F0];rw[BB c2];rfl
    show(CG source L ds ks (k:Int) e ea).bind _=_;rw[Dc];exact b1
end
theorem wK{n:Nd}(h:Ft n<=1000000):(Gw n).bind (λy=>cond y (some (n,([]:List Dg))) ((GF 2 0).bind λlO=>some (z0,lO)))=some (xQ n):=by rw[aqQ szQ n h];unfold xQ GF;by_cases hc:Ft n<=2000/\O5 n<=40;rw[Cu.2 hc,if_neg (by omega)];rfl;rw[sK hc,if_pos (by omega)];rfl
theorem avQ{s:ByteArray}(hw:∀t∈Ey s,Rg t):NU s=De s:=by
 unfold NU;rw[ahW];simp only[Uu];by_cases he:Uf s=0
 ·rw[C4 (by omega)]
  simp only[cond];obtain⟨ks,ds,h1,h2,h3,h4⟩:=sX he;have hlen:=(Mv s).2;obtain⟨n,k',e',CF,h5⟩:=aRM (by omega) hw (aFP s).1 ((Ey s).length+1) 0 [] [] 0 0 _ (bjI _) (by simp only[biV];omega) (by rw[biT];exact h1);have h5:B8 (λx:List Dg×List Nd×Int×Int×Int=>CG s (Ey s) x.1 x.2.1 x.2.2.1 x.2.2.2.1 x.2.2.2.2) n ([],[],0,0,0)=some (.inl (ds,ks,(k':Int),e',CF)):=h5;rw[BB h5,h2];simp only[Uu,F0];cases ds with
  |nil=>
   rw[Dv (by simp)];exact wK (by show 1+K4 ks<=1000000;omega)
  |cons d ds=>
   rw[En (by simp only[bhE];omega)];rfl
 rw[oK he,DE (by omega)];rfl
theorem aDO{s:ByteArray}(hw:∀t∈Ey s,Rg t):Kf s=BN s:=by
 unfold Kf;rw[ahW];simp only[Uu];by_cases he:Uf s=0
 ·rw[C4 (by omega)]
  simp only[cond];obtain⟨r,l,h1,h2⟩:=sY he;have hlen:=(Mv s).2;rw[h2];obtain⟨k',a1,a2,a3⟩:=aII (k:=0) (ea:=0) hw (by omega) (bjI _) (by rw[biT];exact h1);cases r with
  |inr d=>
   obtain⟨b1,b2,v,b3⟩:=a3;have b3:BV (⟨Ey s,0,((s.data.toList.length:Nat):Int),0,0⟩:Ps)=_:=b3;rw[b3];simp only[Uu];rw[DE b1];rfl
  |inl n=>
   obtain⟨rfl,b,rfl,b3⟩:=a3;have b3:BV (⟨Ey s,0,((s.data.toList.length:Nat):Int),0,0⟩:Ps)=_:=b3;rw[b3];simp only[Uu];rw[C4 rfl];simp only;have hsz:=aiF (c:=0) h1;have:=aiJ n;dsimp only at hsz;cases hd:(Ey s).drop k' with
   |nil=>
    rw[Dv (by have:=PW hd;omega)];exact wK (by omega)
   |cons t u=>
    obtain⟨g1,g2,g3⟩:=CS hd;rw[En (by omega)];simp only;have hu:=ZR (L:=Ey s) (k:=k') (en:=((s.data.toList.length:Nat):Int)) (ea:=0);rw[hd] at hu;dsimp only[Pz] at hu;rw[hu];rfl
 rw[oL he,DE (by omega)];rfl
end Mo
end Go.Proofs.YtpbkhogolfegfaaGreatDoor
namespace Go.Proofs.YtpbkhogolfegfaaGreatDoor
open AI Go LexS
namespace Mo
def apD(y m:Nat):Bool:=match FY (2000+y) m,IF (2000+y) (m+1) with|some a,some b=>A8 a b|_,_=>false
def apE:((bjD 100).all λy=>(bjD 12).all λm=>apD y m)=true:=by kernel_rfl
def aPS{y m:Nat}(hy:y < 100)(hm:m < 12):∃n,FY (2000+y) m=some n/\IF (2000+y) (m+1)=some n:=by have h:=bjM.1 (bjM.1 apE y (bkI.2 hy)) m (bkI.2 hm);unfold apD at h;split at h;rename_i a b h1 h2;exact⟨a,h1,by rw[h2,F3 h]⟩;cases h
def aVX(m:Nat):Bool:=match Db m,Db (m+1:Nat),IF (A1 2000 (lE m 12)) (A1 (XC m 12) 1) with|some a,some b,some d=>A8 b (a+d)&&(Nat.ble 0 a.toNat&&(decide (0<=a/\a<=40000/\0<=d/\d<=31)))|_,_,_=>false
def aNN:((bjD 1199).all aVX)=true:=by kernel_rfl
def aVY{m:Nat}(hm:m < 1199):∃a d,Db m=some a/\Db (m+1:Nat)=some (a+d)/\IF (A1 2000 (lE m 12)) (A1 (XC m 12) 1)=some d/\0<=a/\a<=40000/\0<=d/\d<=31:=by have h:=bjM.1 aNN m (bkI.2 hm);unfold aVX at h;split at h;rename_i a b d h1 h2 h3;simp only[bhB,decide_eq_true_eq] at h;exact⟨a,d,h1,by rw[h2,F3 h.1],h3,h.2.2.1,h.2.2.2.1,h.2.2.2.2.1,h.2.2.2.2.2⟩;cases h
def acN:∀(j k month:Nat)(a:Int),k+j=month->month<=1199->Db k=some a->∃b n,Db month=some b/\B8 (λx:Int×Int=>GD month x.1 x.2) n (a,(k:Int))=some (.inl b):=by
 intro j
 induction j with
 |zero=>
  intro k month a h hm ha;have:k=month:=by omega
  subst this;refine⟨a,1,ha,?_⟩;show(GD k a k).bind _=_;unfold GD;rw[Dv (by omega)];rfl
 |succ j ih=>
  intro k month a h hm ha;obtain⟨a',d,h1,h2,h3,h4,h5,h6,h7⟩:=aVY (m:=k) (by omega);rw[ha] at h1;cases h1;obtain⟨b,n,h8,h9⟩:=ih (k+1) month (a+d) (by omega) hm h2;refine⟨b,n+1,h8,?_⟩;show(GD month a k).bind _=_
  have:GD month a k=some (.nx (a+d,((k+1:Nat):Int))):=by unfold GD;rw[En (by omega),h3];simp only[cond,Uu];rw[Cg (a:=a) (by omega),Cg (a:=(k:Int)) (by omega)];rfl
  rw[this];exact h9
def aqP{month:Nat}(h:month<=1199):NN month=Db month:=by obtain⟨b,n,h1,h2⟩:=acN month 0 month 0 (by omega) h (by kernel_rfl);unfold NN;rw[Dv (by omega),Dv (by omega)];simp only[cond];have h2:B8 (λx:Int×Int=>GD month x.1 x.2) n (0,0)=some (.inl b):=h2;rw[BB h2,h1];rfl
def aNB(y m d:Int)(hy:0<=y/\y<=100000)(hm:0<=m/\m<=100000)(hd:0<=d/\d<=100000):Rk y m d=I4 y m d:=by unfold I4 Rk;cases h1:Cy y 2000;rotate_left;rfl;cases h2:Cy 2099 y;rotate_left;rfl;cases h3:Cy m 1;rotate_left;rfl;cases h4:Cy 12 m;rotate_left;rfl;cases h5:Cy d 1;rotate_left;rfl;have h1:=Lx h1;have h2:=Lx h2;have h3:=Lx h3;have h4:=Lx h4;obtain⟨n,a1,a2⟩:=aPS (y:=(y - 2000).toNat) (m:=(m - 1).toNat) (by omega) (by omega);rw[show(2000:Int)+((y - 2000).toNat:Nat)=y by omega,show(((m - 1).toNat:Nat):Int)=m - 1 by omega] at a1;rw[show(2000:Int)+((y - 2000).toNat:Nat)=y by omega,show(((m - 1).toNat:Nat):Int)+1=m by omega] at a2;have a3:=aqP (month:=(12*(y - 2000)+(m - 1)).toNat) (by omega);rw[show(((12*(y - 2000)+(m - 1)).toNat:Nat):Int)=(y - 2000)*12+m - 1 by omega] at a3;dsimp only[cond];rw[FW (a:=m) (by omega),a1,a2,Uu,Uu,FW (a:=y) (by omega),JM (by omega),Cg (by omega),FW (by omega),a3]
def nl1{s:ByteArray}{i to:Nat}{c:UInt8}{n:Int}(hc:OH c)(h:s.data.toList[i]?=some c)(hi:i < to)(ht:to<=1000)(hn:0<=n/\n<=100000):BY s to n i=some (.nx (n*10+((c.toNat:Int) - 48),((i+1:Nat):Int))):=by
 have h1:=hc.1;have h2:=hc.2;unfold BY;rw[En (by omega),EB,h];simp only[cond,Uu];rw[Dv (by omega),Dv (by omega)];have e:w64 ((c.toNat:Nat):Int)=(c.toNat:Int):=by unfold w64;exact uN (by omega)
 rw[e,JM (by omega),Cg (by omega),FW (by omega),Cg (by omega)];simp only;rw[show 10*n+(c.toNat:Int) - 48=n*10+((c.toNat:Int) - 48) by omega];rfl
def nl0{s:ByteArray}{i:Nat}{n:Int}:BY s i n i=some (.ex n):=by unfold BY;rw[Dv (by omega)];rfl
def nr{s:ByteArray}{to i:Nat}{n n':Int}{m:Nat}{z}(h:BY s to n i=some (.nx (n',((i+1:Nat):Int))))(h2:B8 (λx:Int×Int=>BY s to x.1 x.2) m (n',((i+1:Nat):Int))=z):B8 (λx:Int×Int=>BY s to x.1 x.2) (m+1) (n,(i:Int))=z:=by show(BY s to n i).bind _=_;rw[h];exact h2
def ne_{s:ByteArray}{to:Nat}{n:Int}:B8 (λx:Int×Int=>BY s to x.1 x.2) 1 (n,(to:Int))=some (.inl n):=by show(BY s to n to).bind _=_;rw[nl0];rfl
def aAF{c0 c1 c2 c3 c5 c6 c8 c9:UInt8}(h0:OH c0)(h1:OH c1)(h2:OH c2)(h3:OH c3)(h5:OH c5)(h6:OH c6)(h8:OH c8)(h9:OH c9) :
   LM ⟨([c0,c1,c2,c3,45,c5,c6,45,c8,c9]:List UInt8).toArray⟩=Ep ⟨([c0,c1,c2,c3,45,c5,c6,45,c8,c9]:List UInt8).toArray⟩:=by
 have b0:=h0;have b1:=h1;have b2:=h2;have b3:=h3;have b5:=h5;have b6:=h6;have b8:=h8;have b9:=h9;unfold OH at b0 b1 b2 b3 b5 b6 b8 b9;generalize hs:(⟨([c0,c1,c2,c3,45,c5,c6,45,c8,c9]:List UInt8).toArray⟩:ByteArray)=s;have hl:s.data.toList=[c0,c1,c2,c3,45,c5,c6,45,c8,c9]:=by rw[<- hs]
 have n1:Ed s 0 4=some ((((0*10+((c0.toNat:Int) - 48))*10+((c1.toNat:Int) - 48))*10+((c2.toNat:Int) - 48))*10+((c3.toNat:Int) - 48),true):=by unfold Ed;have:B8 (λx:Int×Int=>BY s (4:Nat) x.1 x.2) 5 (0,((0:Nat):Int))=_:=nr (nl1 h0 (by rw[hl];rfl) (by decide) (by decide) (by omega)) (nr (nl1 h1 (by rw[hl];rfl) (by decide) (by decide) (by omega)) (nr (nl1 h2 (by rw[hl];rfl) (by decide) (by decide) (by omega)) (nr (nl1 h3 (by rw[hl];rfl) (by decide) (by decide) (by omega)) ne_)));have:B8 (λx:Int×Int=>BY s 4 x.1 x.2) 5 (0,0)=_:=this;rw[BB this];rfl
 have n2:Ed s 5 7=some ((0*10+((c5.toNat:Int) - 48))*10+((c6.toNat:Int) - 48),true):=by unfold Ed;have:B8 (λx:Int×Int=>BY s (7:Nat) x.1 x.2) 3 (0,((5:Nat):Int))=_:=nr (nl1 h5 (by rw[hl];rfl) (by decide) (by decide) (by omega)) (nr (nl1 h6 (by rw[hl];rfl) (by decide) (by decide) (by omega)) ne_);have:B8 (λx:Int×Int=>BY s 7 x.1 x.2) 3 (0,5)=_:=this;rw[BB this];rfl
 have n3:Ed s 8 10=some ((0*10+((c8.toNat:Int) - 48))*10+((c9.toNat:Int) - 48),true):=by unfold Ed;have:B8 (λx:Int×Int=>BY s (10:Nat) x.1 x.2) 3 (0,((8:Nat):Int))=_:=nr (nl1 h8 (by rw[hl];rfl) (by decide) (by decide) (by omega)) (nr (nl1 h9 (by rw[hl];rfl) (by decide) (by decide) (by omega)) ne_);have:B8 (λx:Int×Int=>BY s 10 x.1 x.2) 3 (0,8)=_:=this;rw[BB this];rfl
 have d1:=aNB ((((0*10+((c0.toNat:Int) - 48))*10+((c1.toNat:Int) - 48))*10+((c2.toNat:Int) - 48))*10+((c3.toNat:Int) - 48)) ((0*10+((c5.toNat:Int) - 48))*10+((c6.toNat:Int) - 48)) ((0*10+((c8.toNat:Int) - 48))*10+((c9.toNat:Int) - 48)) (by omega) (by omega) (by omega);unfold LM;rw[n1,n2,n3,hl,C4 (by rfl)];simp only[cond,Uu];rw[d1];unfold Ep;rw[hl,C4 (by rfl)];dsimp only[cond]
 have key:Bs (λi y x=>B5 i y x.1 x.2.1 x.2.2.1 x.2.2.2) (λx:Int×Int×Int×Int=>(x.2.1,x.2.2.1,x.2.2.2)) [c0,c1,c2,c3,45,c5,c6,45,c8,c9] 0 (0,0,0,0)=some (.inl ((((0*10+((c0.toNat:Int) - 48))*10+((c1.toNat:Int) - 48))*10+((c2.toNat:Int) - 48))*10+((c3.toNat:Int) - 48),(0*10+((c5.toNat:Int) - 48))*10+((c6.toNat:Int) - 48),(0*10+((c8.toNat:Int) - 48))*10+((c9.toNat:Int) - 48))):=by show clF [c0,c1,c2,c3,45,c5,c6,45,c8,c9] 0 (0,0,0,0)=_;rw[fo0 (by decide) (by decide) h0 (by omega)];rw[fo0 (by decide) (by decide) h1 (by omega)];rw[fo0 (by decide) (by decide) h2 (by omega)];rw[fo0 (by decide) (by decide) h3 (by omega)];rw[fo4];rw[fo1 (by decide) (by decide) h5 (by omega)];rw[fo1 (by decide) (by decide) h6 (by omega)];rw[fo7];rw[fo2 (by decide) (by decide) h8 (by omega)];rw[fo2 (by decide) (by decide) h9 (by omega)];rfl
 have hli:PK ([c0,c1,c2,c3,45,c5,c6,45,c8,c9]:List UInt8).length=λy:Option ((Int×Int×Int)⊕(Int×Int))=>y:=funext λy=>if_pos (by simp);simp only[biT];rw[hli,key];rfl
def I8(l:List UInt8):List UInt8:=l.filter (· != 46)
def auH:∀(l:List UInt8)(i acc:Nat),(∀c∈l,OH c\/c=46)->(acc+1)*10 ^ (I8 l).length<=10 ^ 12->∃n,bpP acc (I8 l)=some n/\Bs (λi y x=>Iv i y x) (λx=>x) l i (acc:Int)=some (.inl (n:Int)):=by
 intro l
 induction l with
 |nil=>intro i acc _ _;exact⟨acc,rfl,rfl⟩
 |cons c l ih=>
  intro i acc h hb;have ih:=λi acc hb=>ih i acc (λx hx=>h x (biB _ hx)) hb;rcases h c (biK ..) with hc | rfl
  have hne:(c != 46)=true:=by
   have:c≠46:=by rintro rfl;exact absurd hc.1 (by decide)
   simpa using this
  have e:I8 (c::l)=c::I8 l:=by unfold I8;rw[List.filter_cons,if_pos hne]
  have h1:=hc.1;have h2:=hc.2;rw[e] at hb ⊢;rw[bhE,Nat.pow_succ,Nat.mul_comm (10 ^ (I8 l).length) 10,<- Nat.mul_assoc] at hb;have hpos:1<=10 ^ (I8 l).length:=Nat.pow_pos (by omega);have rI:(acc+1)*10<=10 ^ 12:=biP (Nat.le_mul_of_pos_right _ hpos) hb;obtain⟨n,a1,a2⟩:=ih (i+1) (acc*10+(c.toNat - 48)) (biP (Nat.mul_le_mul_right _ (by omega)) hb);refine⟨n,?_,?_⟩;unfold bpP Lib.digitVal;rw[if_pos (show 48<=c.toNat/\c.toNat<=57 from hc)];exact a1;unfold Bs
  have:Iv i c (acc:Int)=some (.nx ((acc*10+(c.toNat - 48):Nat):Int)):=by unfold Iv;rw[DE (by omega),afY hc];simp only[cond];rw[JM (by omega),Cg (by omega)];rw[show(10:Int)*acc+((c.toNat:Int) - 48)=((acc*10+(c.toNat - 48):Nat):Int) by omega]
  rw[this];exact a2;have e:I8 (46::l)=I8 l:=rfl;rw[e] at hb ⊢;obtain⟨n,a1,a2⟩:=ih (i+1) acc hb;refine⟨n,a1,?_⟩;unfold Bs;have:Iv i 46 (acc:Int)=some (.nx (acc:Int)):=rfl;rw[this];exact a2
def aoM{l:List UInt8}(h0:l≠[])(h:∀c∈l,OH c){n:Nat}(hn:bpP 0 l=some n):bpB l=some (n:Int)\/¬n < 10 ^ 12:=by
 cases l with
 |nil=>exact absurd rfl h0
 |cons c l=>
  have hc:=h c (biK ..);by_cases hlt:n < 10 ^ 12;left
  have e1:(c == 45)=false:=by apply beq_false_of_ne;rintro rfl;exact absurd hc.1 (by decide)
  have e2:(c == 43)=false:=by apply beq_false_of_ne;rintro rfl;exact absurd hc.1 (by decide)
  unfold bpB Lib.decNat;dsimp only;rw[e1,e2];simp only[biF,if_false,List.isEmpty_cons];rw[hn];rfl;exact .inr hlt
def yB{l:List UInt8}(h:∀c∈l,OH c\/c=46)(hl:l.length<=20)(h0:I8 l≠[])(hm:(I8 l).length<=12):∃z:Int,bpB (I8 l)=some z/\BP ⟨l.toArray⟩=some z:=by
 have hp:(0+1)*10 ^ (I8 l).length<=10 ^ 12:=by rw[bhC,Nat.one_mul];exact Nat.pow_le_pow_right (by omega) hm
 obtain⟨n,h1,h2⟩:=auH l 0 0 h hp
 have hd:∀c∈I8 l,OH c:=λc hc=>by
  obtain⟨h3,h4⟩:=List.mem_filter.1 hc;rcases h c h3 with h5 | rfl
  exact h5;cases h4
 refine⟨n,?_,?_⟩;obtain⟨n',h3,h4⟩:=afX (I8 l) 0 hd;rw[h1] at h3;cases h3;rcases aoM h0 hd h1 with h5 | h5
 exact h5;exact absurd (Nat.lt_of_lt_of_le h4 hp) h5;unfold BP;simp only[bkL,biT];have h2:Bs (λi y x=>Iv i y x) (λx=>x) l 0 0=some (.inl (n:Int)):=h2;rw[h2,L9 (by omega)];rfl
def Zl{l:List UInt8}(h:∀c∈l,OH c):I8 l=l:=by
 unfold I8;rw[List.filter_eq_self];intro c hc;have:c≠46:=by rintro rfl;exact absurd (h _ hc).1 (by decide)
 simpa using this
def alT{d r:List UInt8}(h:∀c∈d,OH c)(hr:∀c∈r,OH c):I8 (d++46::r)=d++r:=by
 have e:I8 (d++46::r)=I8 d++I8 r:=by unfold I8;rw[List.filter_append];rfl
 rw[e,Zl h,Zl hr]
def fV{k a:Int}{l:List UInt8}(h:∀c∈l,OH c\/c=46)(hr:Lib.replace l [46] [] 1=I8 l)(hl:l.length<=20)(h0:I8 l≠[])(hm:(I8 l).length<=12):∃z,Dy ⟨k,⟨l.toArray⟩,a⟩=some z/\BP ⟨l.toArray⟩=some z:=by
 obtain⟨z,h1,h2⟩:=yB h hl h0 hm;refine⟨z,?_,h2⟩
 have ha:OK ⟨(I8 l).toArray⟩=some (z,()):=by unfold OK;rw[if_pos (by simp;omega)];simp only[bkL,h1,bhK]
 unfold Dy
 have:Me ⟨l.toArray⟩ avF gT 1=some ⟨(I8 l).toArray⟩:=by
  unfold Me
  rw[if_pos ⟨by decide,by
   have:(gT).size=0:=rfl;have h2:(⟨l.toArray⟩:ByteArray).size=l.length:=by simp[ByteArray.size]
   rw[this,h2];omega⟩]
  have:(avF).data.toList=[46]:=rfl;rw[this];simp only[bkL];rw[show(gT).data.toList=[] from rfl,hr]
 dsimp only;rw[this,Uu,ha];rfl
def aqO(x:ByteArray):Bool:=match x.data.toList with|[]=>false|b::_=>!((48<=b.toNat&&b.toNat<=57)||(65<=b.toNat&&b.toNat<=90))
def asN:Em.all aqO=true:=by kernel_rfl
def aJK{t:Tk}{c:UInt8}{u:List UInt8}(h:t.text.data.toList=c::u)(hc:(48<=c.toNat/\c.toNat<=57)\/(65<=c.toNat/\c.toNat<=90)):Kw t:=λx hx he=>by
 have hf:=bjM.1 asN x hx;rw[RC] at he;have he:=eq_of_beq he;unfold aqO at hf;rw[<- he,h] at hf;simp only[bpI,Bool.or_eq_false_iff,Bool.and_eq_false_iff,decide_eq_false_iff_not] at hf;omega
def aSL{t:List UInt8}{o:Nat}(h:(A7 t).1≠0):Rg (Ju ((A7 t).1,t.take (A7 t).2,o)):=by
 have other:Kw (Ju ((A7 t).1,t.take (A7 t).2,o))->(A7 t).1≠3->(A7 t).1≠4->(A7 t).1≠5->Rg (Ju ((A7 t).1,t.take (A7 t).2,o)):=by intro hk h3 h4 h5;refine⟨hk,λh=>?_,λh=>?_,λh=>?_⟩;have:(((A7 t).1:Nat):Int)=3:=h;omega;have:(((A7 t).1:Nat):Int)=3\/(((A7 t).1:Nat):Int)=4:=h;omega;have:(((A7 t).1:Nat):Int)=5:=h;omega
 by_cases c2:JC 2 t=true
 have h1:(A7 t).1=1:=by unfold A7 at h ⊢;rw[if_pos c2] at h ⊢;split;rfl;rename_i hx;rw[if_neg hx] at h;exact absurd rfl h
 refine other (λx _ _=>.inl (by show(((A7 t).1:Nat):Int)=1;omega)) ?_ ?_ ?_<;>omega
 by_cases c4:JC 4 t=true
 ·have h1:A7 t=(2,Bf 30 t)/\Bf 30 t=3:=by
   unfold A7 at h ⊢;rw[if_neg c2,if_pos c4] at h ⊢;split;rename_i hx;exact⟨rfl,hx.1⟩;rename_i hx;rw[if_neg hx] at h;exact absurd rfl h
  obtain⟨c,u,rfl,hc⟩:=U0 c4;obtain⟨a,b⟩:=azY hc;have hb:=(azZ _ a).2.1 b;refine other (aJK (c:=c) (u:=u.take 2) ?_ (.inr hb)) ?_ ?_ ?_;rw[h1.1,h1.2];rfl
  all_goals (rw[h1.1];simp)
 by_cases c8:JC 8 t=true;rotate_left;have:A7 t=R5 t G4:=by unfold A7;rw[if_neg c2,if_neg c4,if_neg c8]
 rcases ZM t G4 with h1 | h1
 rw[this] at h;exact absurd h1 h;rw[<- this] at h1;refine other (λx _ _=>.inr (by show(((A7 t).1:Nat):Int)=6;omega)) ?_ ?_ ?_<;>omega
 have hr:A7 t=Ik t:=by unfold A7;rw[if_neg c2,if_neg c4,if_pos c8]
 have hp:=aaL c8;have hsp:=aaI 8 t
 have Hi:1<=(Ik t).2->Kw (Ju ((Ik t).1,t.take (Ik t).2,o)):=λhn=>by
  obtain⟨c,u,rfl,hc⟩:=U0 c8;obtain⟨n,hn⟩:∃n,(Ik (c::u)).2=n+1:=⟨(Ik (c::u)).2 - 1,by omega⟩;refine aJK (c:=c) (u:=u.take n) ?_ (.inl (apG hc));rw[hn];rfl
 rw[hr] at h ⊢;unfold Ik at h Hi ⊢;dsimp only at h Hi ⊢;by_cases hd:Il t=true;rw[if_pos hd] at h Hi ⊢;split at h;rename_i hf;rw[if_pos hf] at Hi ⊢;refine⟨Hi (by decide),λh=>?_,λh=>?_,λh=>?_⟩;have:(((5:Nat)):Int)=3:=h;omega;have:(((5:Nat)):Int)=3\/((5:Nat):Int)=4:=h;omega;obtain⟨c0,c1,c2,c3,c5,c6,c8,c9,h0,a0,a1,a2,a3,a5,a6,a8,a9⟩:=nE hd;dsimp only[Ju];rw[h0];obtain⟨z,e,g1,g2⟩:=nF a0 a1 a2 a3 a5 a6 a8 a9;exact⟨z,e,z,g1,by rw[aAF a0 a1 a2 a3 a5 a6 a8 a9];exact g1,λhe=>⟨rfl,g2 he⟩⟩;exact absurd rfl h;rw[if_neg hd] at h Hi ⊢;by_cases h0:t.head?=some 48/\1 < Bf 8 t;rw[if_pos h0] at h;exact absurd rfl h;rw[if_neg h0] at h Hi ⊢;by_cases h1:(t.drop (Bf 8 t)).head?=some 46;rw[if_pos h1] at h Hi ⊢;by_cases h2:10 < Bf 8 t\/JC 8 (t.drop (Bf 8 t+1))=false\/JC 8 (t.drop (Bf 8 t+2))=false;rw[if_pos h2] at h;exact absurd rfl h;rw[if_neg h2] at h Hi ⊢;split at h;rename_i hf;rw[if_pos hf] at Hi ⊢;refine⟨Hi (by simp),λh=>?_,λ_=>?_,λh=>?_⟩;have:(((4:Nat)):Int)=3:=h;omega;simp only[not_or,Bool.not_eq_false] at h2;obtain⟨x,y,e,hx,hy⟩:=fW h1 h2.2.1 h2.2.2;dsimp only[Ju];rw[e];have hs:=YA t
 have hxy:∀c∈[x,y],OH c:=λc hc=>by
  simp only[bhJ,biZ,or_false] at hc;rcases hc with rfl | rfl
  exact hx;exact hy
 have hnd:=alT hs hxy;refine fV (λc hc=>?_) (by rw[hnd];exact zG hs) ?_ (by rw[hnd];simp) ?_;rcases List.mem_append.1 hc with hc | hc
 exact .inl (hs c hc);rcases bhJ.1 hc with rfl | hc
 exact .inr rfl;exact .inl (hxy c hc);simp only[aWQ,biM,bhE,biV];omega;rw[hnd];simp only[aWQ,biM,bhE,biV];omega;have:(((4:Nat)):Int)=5:=h;omega;exact absurd rfl h;rw[if_neg h1] at h Hi ⊢;by_cases h2:12 < Bf 8 t;rw[if_pos h2] at h;exact absurd rfl h;rw[if_neg h2] at h Hi ⊢;split at h;rename_i hf;rw[if_pos hf] at Hi ⊢;have hs:=YA t
 have hne:t.take (Bf 8 t)≠[]:=λe=>by
  have:=congrArg bmC e;rw[biM,biV] at this;omega
 have hnd:=Zl hs;refine⟨Hi hp,λh=>?_,λ_=>?_,λh=>?_⟩;obtain⟨z,g1,g2⟩:=yB (l:=t.take (Bf 8 t)) (λc hc=>.inl (hs c hc)) (by rw[biM];omega) (by rw[hnd];exact hne) (by rw[hnd,biM];omega);refine⟨z,?_,g2⟩;rw[hnd] at g1;dsimp only[Ju];unfold OK;rw[if_pos (by simp;omega)];simp only[bkL,g1,bhK];exact fV (λc hc=>.inl (hs c hc)) (by rw[hnd];exact ahR hs) (by rw[biM];omega) (by rw[hnd];exact hne) (by rw[hnd,biM];omega);have:(((3:Nat)):Int)=5:=h;omega;exact absurd rfl h
def aiN(s:ByteArray):∀t∈Ey s,Rg t:=by
 intro t ht;unfold Ey Of at ht;split at ht;cases ht;obtain⟨a,b⟩:=iN (FX s.data.toList) [] (bjI _);obtain⟨x,hx,rfl⟩:=bkR.1 ht;rcases b x hx with hx | ⟨hx,h0⟩
 cases hx;obtain⟨u,o',h1,h2,rfl⟩:=pO _ _ _ x hx h0;exact aSL h2
end Mo
end Go.Proofs.YtpbkhogolfegfaaGreatDoor
namespace Go.Proofs.YtpbkhogolfegfaaGreatDoor
open AI Go
namespace Mo
set_option maxHeartbeats 4000000
@[irreducible] def peV(s:ByteArray):Nd×List Dg:=match RE ((s.data.toList.length:Nat):Int) (Ey s) with|some x=>aUI x|none=>(z0,[])
@[irreducible] def ppV(s:ByteArray):Nd×List Dg:=match ZQ ((s.data.toList.length:Nat):Int) ((Ey s).length+1) (Ey s) [] [] with|some x=>aUJ x.1 x.2|none=>(z0,[])
def aDC{s:ByteArray}(h:Uf s=0):BN s=some (peV s):=by obtain⟨r,l,h1,h2⟩:=sY h;unfold peV;rw[h1];exact h2
def aZO{s:ByteArray}(h:Uf s=0):De s=some (ppV s):=by obtain⟨ks,ds,h1,h2,_⟩:=sX h;unfold ppV;rw[h1];exact h2
abbrev t1:=FO
abbrev t6:=At
mutual
def ntN:Nd->Bool
 |⟨_,_,_,_,_,_,_,t,ks,_⟩=>cond t.ps.isEmpty (ntL ks) false
def ntL:List Nd->Bool
 |[]=>true
 |k::ks=>cond (ntN k) (ntL ks) false
end
def Y1{a b:Bool}(h:cond a b false=true):a=true/\b=true:=by cases a<;>simp_all
def ahH{k:Nd}:∀{l:List Nd},ntL l=true->k∈l->ntN k=true
 |x::l,h,hm=>by
  obtain⟨h1,h2⟩:=Y1 (show cond _ _ _=true from h);rcases bhJ.1 hm with rfl | hm
  exact h1;exact ahH h2 hm
def aJS(n:Nd):ntN n=true->Ft n<=1000000->IS n/\U9 n:=by
 refine U3 (p:=λn=>ntN n=true->Ft n<=1000000->IS n/\U9 n) (λn ih h hz=>?_) n;have e:ntN n=cond n.CW.ps.isEmpty (ntL n.kids) false:=by cases n;rfl
 rw[e] at h;obtain⟨h1,h2⟩:=Y1 h;exact alV (List.isEmpty_iff.1 h1) hz λk hk=>ih k hk (ahH h2 hk) (by have:=Rt hk;omega)
def aqF{n:Nd}{z:Int}(hn:ntN n=true)(hz:Ft n<=1000000)(h:AZ 40 ⟨0⟩ n 0=some (true,z)):S5 n:=by obtain⟨z',h1,_⟩:=acK (aJS n hn hz).1 0 0 (by omega) (by omega) (by omega) (by omega);have h2:Gb ⟨0⟩ n 0=some (true,z):=acI (λq=>(cY q).1 _ _ _) h;rw[h2] at h1;simp only[atS,Prod.mk.injEq] at h1;exact(Cu.1 h1.1.symm).1
def auE{s:ByteArray}(h:DM s=some true):MT s:=Cu.1 (by rw[rD] at h;exact biA h)
def aSP{s:ByteArray}(h:EL s=some true):Pf s:=Cu.1 (by rw[sZ] at h;exact biA h)
def baJ:S5 (peV t1).1/\(peV t1).1.kind=16/\Ft (peV t1).1<=100/\O5 (peV t1).1<=30 :=
 ⟨aqF (z:=8) (by kernel_rfl) (bhG (by kernel_rfl)) (by kernel_rfl),by kernel_rfl,bhG (by kernel_rfl),bhG (by kernel_rfl)⟩
def kd(n:Nd)(i:Nat):Nd:=n.kids.getD i z0
def s6:Nd:=(ppV t6).1
def beY:K8 (kd s6 0):=(it3 (by kernel_rfl)).2 ⟨auE (by kernel_rfl),aSP (by kernel_rfl),by rw[show(kd s6 0).n=1 by kernel_rfl];decide,by rw[show(kd s6 0).n=1 by kernel_rfl];decide,by kernel_rfl,⟨by kernel_rfl,by kernel_rfl,by kernel_rfl,by kernel_rfl,by kernel_rfl,by kernel_rfl,by kernel_rfl,by kernel_rfl⟩⟩
def beX:K8 (kd s6 1):=(it4 (by kernel_rfl)).2 ⟨by rw[show(kd s6 1).n=3 by kernel_rfl];unfold Jl;decide,auE (by kernel_rfl),⟨by kernel_rfl,by kernel_rfl,by kernel_rfl,by kernel_rfl,by kernel_rfl,by kernel_rfl,by kernel_rfl,by kernel_rfl⟩,kd (kd s6 1) 0,[kd (kd s6 1) 1],by kernel_rfl,by
 intro c hc
 rw[biQ.1 hc,show(kd (kd s6 1) 1).kind=8 by kernel_rfl];decide,by kernel_rfl,bhG (by kernel_rfl),⟨by kernel_rfl,by rw[show(kd (kd s6 1) 0).n=1 by kernel_rfl];decide,by kernel_rfl,by
  rw[show(kd (kd s6 1) 0).fr=8766 by kernel_rfl];unfold vZ;decide,by rw[show(kd (kd s6 1) 0).fr=8766 by kernel_rfl,show(kd (kd s6 1) 0).to=36525 by kernel_rfl];decide,by rw[show(kd (kd s6 1) 0).known=8766 by kernel_rfl];unfold vZ;decide,⟨by kernel_rfl,by kernel_rfl,by kernel_rfl,by kernel_rfl,by kernel_rfl,by kernel_rfl,by kernel_rfl,by kernel_rfl⟩⟩,by
 intro c hc;rw[biQ.1 hc];refine⟨⟨by kernel_rfl,by kernel_rfl,by kernel_rfl,by kernel_rfl,by kernel_rfl,by kernel_rfl,by kernel_rfl,by kernel_rfl⟩,λh=>?_,λ_=>⟨by kernel_rfl,λk hk=>?_⟩⟩;rw[show(kd (kd s6 1) 1).kind=8 by kernel_rfl] at h;exact absurd h (by decide);rw[show(kd (kd s6 1) 1).kids=[kd (kd (kd s6 1) 1) 0] by kernel_rfl] at hk;rw[biQ.1 hk];exact aqF (z:=1) (by kernel_rfl) (bhG (by kernel_rfl)) (by kernel_rfl)⟩
def baA:IS s6/\okV s6:=by
 have hk:∀k∈s6.kids,K8 k:=λk hk=>by
  rw[show s6.kids=[kd s6 0,kd s6 1] by kernel_rfl] at hk;rcases bhJ.1 hk with rfl | hk
  exact beY;rw[biQ.1 hk];exact beX
 refine⟨(aJS s6 (by kernel_rfl) (bhG (by kernel_rfl))).1,.inl ⟨by kernel_rfl,⟨by kernel_rfl,by kernel_rfl,by kernel_rfl,by kernel_rfl,by kernel_rfl,by kernel_rfl,by kernel_rfl,by kernel_rfl⟩,hk⟩,bhG (by kernel_rfl),bhG (by kernel_rfl)⟩
def alF:Pp=some true:=by
 obtain⟨e1,k1,z1,d1⟩:=baJ;obtain⟨ok1,ps1⟩:=aAL _ e1 (by omega);have v1:okV (peV t1).1:=⟨.inr ⟨by omega,e1⟩,by omega,by omega⟩;have v6:IS (ppV t6).1/\okV (ppV t6).1:=baA;have Dc:Hk (peV t1).1=some (Jr (peV t1).1):=zZ (by omega);have hsm:Gu (Jr (peV t1).1) (Jr (peV t1).1)=some true:=uC (by have:=aiK (peV t1).1;omega) (aJX _ ps1);have hv6:D9 (ppV t6).1=some true:=by rw[eB v6.1,Cu.2 v6.2]
 have hv1:D9 (Jr (peV t1).1)=some true:=by rw[eB (aZB ok1),Cu.2 ((aQN _).2 v1)]
 have hva:D9 ⟨12,QO,gT,0,0,0,0,⟨0,[]⟩,[],0⟩=some false:=by
  rw[eB ((alM rfl rfl).1),sK];rintro⟨⟨h,_⟩ | ⟨_,h⟩,_⟩;exact absurd h (by decide)
  ·have:=((S6 _).1 h).1
   unfold VS at this;rcases this with h | h | h | h | h | h | h | h
   exact absurd h.1 (by decide);exact h.2.1.2.2.1 (by unfold xN;simp)
   all_goals exact absurd h.1 (by decide)
 have h7:(⟨16,MI,gT,0,0,0,0,⟨0,[]⟩,[⟨16,ID,gT,0,0,0,0,⟨0,[]⟩,[⟨11,gT,BH,3,0,0,0,⟨0,[]⟩,[],0⟩,⟨12,aS,gT,0,0,0,0,⟨0,[]⟩,[],0⟩],0⟩,⟨15,gT,gT,0,0,0,0,⟨0,[]⟩,[⟨16,Ec,gT,0,0,0,0,⟨0,[]⟩,[⟨12,bS,gT,0,0,0,0,⟨0,[]⟩,[],0⟩,⟨12,cS,gT,0,0,0,0,⟨0,[]⟩,[],0⟩],0⟩],0⟩],0⟩:Nd)=Jr (peV t1).1:=by kernel_rfl
 unfold Pp;rw[aDC (s:=t1) (by kernel_rfl)];simp only[aDC (s:=Fl) (by kernel_rfl),aDC (s:=OA) (by kernel_rfl),aDC (s:=Bt) (by kernel_rfl),aZO (s:=ET) (by kernel_rfl),aZO (s:=t6) (by kernel_rfl),Kr,Od,Uu];rw[h7];simp only[Dc,hsm,hv6,hv1,hva,Uu];show(_:Option Bool)=some true
 kernel_rfl
def aaC(x:Dg):Xm x x=true:=by unfold Xm;simp
def avT{d:List Dg}(h:d.length<=1000):IH d d=some true:=by rw[IH,C4 rfl];refine sG (by omega) (λi y hy=>?_);rw[Qy,hy,Uu,aaC,cond_true]
def SH:U9 z0:=by rw[M0];exact⟨by decide,λk hk=>(by cases hk)⟩
def aSE(n:Nd):SW n=1+n.CW.ps.length+R4 n.kids:=by cases n;rfl
def aiH{k:Nd}:∀{l:List Nd},k∈l->SW k<=R4 l
 |x::l,h=>by
  rw[R4];rcases bhJ.1 h with rfl | h
  omega;have:=aiH h;omega
def aZP{n:Nd}:SW n<=1000000->U9 n:=by refine U3 (p:=λn=>SW n<=1000000->U9 n) (λn ih h=>?_) n;have h1:=aSE n;exact(M0 n).2 ⟨by omega,λk hk=>ih k hk (by have:=aiH hk;omega)⟩
def oY:Ft z0<=1000000:=by decide
def xR{n:Nd}(hz:Ft n<=1000000)(hp:U9 n):Ft (xQ n).1<=1000000/\U9 (xQ n).1/\(xQ n).2.length<=1000:=by unfold xQ;split;exact⟨oY,SH,by simp⟩;exact⟨hz,hp,bjI _⟩
def adS(s:ByteArray):∃n d,De s=some (n,d)/\Ft n<=1000000/\U9 n/\d.length<=1000:=by
 by_cases he:Uf s=0
 ·obtain⟨ks,ds,h1,h2,h3,h4⟩:=sX he
  have hw:=axT _ _ _ _ _ (Mv s).1 (by have:=(Mv s).2;omega) h1;have hlen:=(Mv s).2;simp only[R4] at hw;have nS:U9 (Vm ks):=aZP (by show 1+0+R4 ks<=1000000;omega);cases ds with
  |nil=>
   have:=xR (n:=Vm ks) (by rw[show Ft (Vm ks)=1+K4 ks from rfl];omega) nS;exact⟨_,_,h2,this⟩
  |cons d ds=>exact⟨_,_,h2,oY,SH,by show(d::ds).length<=1000;omega⟩
 exact⟨_,_,oK he,oY,SH,by simp⟩
def adT(s:ByteArray):∃n d,BN s=some (n,d)/\Ft n<=1000000/\U9 n/\d.length<=1000:=by
 by_cases he:Uf s=0
 ·obtain⟨r,l,h1,h2⟩:=sY he
  have hlen:=(Mv s).2;cases r with
  |inr d=>exact⟨_,_,h2,oY,SH,by simp⟩
  |inl n=>
   have hsz:=aiF (c:=0) h1;have:=aiJ n;dsimp only at hsz;cases l with|nil=>exact⟨_,_,h2,xR (by omega) (aZP (by omega))⟩|cons t l=>exact⟨_,_,h2,oY,SH,by simp⟩
 exact⟨_,_,oL he,oY,SH,by simp⟩
def QP(source text:ByteArray)(n:Nd)(_:source.data.toList.length<=140737488351232)(_:text.data.toList.length<=140737488351232)(hn:IS n)(hp:U9 n):Gi source text n=some true:=by
 unfold Gi;rw[alF];simp only[Uu];cases Cy 6010 ((source.data.toList.length:Nat):Int) with
 |true=>rfl
 |false=>
  cases Cy 6010 ((text.data.toList.length:Nat):Int) with
  |true=>rfl
  |false=>
   simp only[cond];rw[aVW n 2100 hn (by omega)];simp only[Uu];by_cases hs:((Ft n:Nat):Int)<=2100
   ·rw[Cu.2 hs]
    simp only;have hf:KX n 100=some (mb (((O5 n:Nat):Int)<=100)):=RD (Ft n) λq hq=>aqR okQ q n 100 hn hq (by omega) (by omega);rw[hf];simp only[Uu];cases mb (((O5 n:Nat):Int)<=100) with
    |false=>rfl
    |true=>
     obtain⟨a,d,g1,g2,g3,g4⟩:=adS source;obtain⟨x,f,k1,k2,k3,k4⟩:=adT text;simp only;rw[g1,avQ (aiN source),g1,k1,aDO (aiN text),k1];simp only[Uu];rw[uC g2 g3];simp only[Uu];rw[avT g4];simp only[Uu];rw[uC k2 k3];simp only[Uu];rw[avT k4];simp only[Uu];have Dc:Hv n=some (Jr n):=avD (by omega) hp;have hrs:Hk n=some (Jr n):=zZ (by omega);have hsm:Gu (Jr n) (Jr n)=some true:=uC (by have:=aiK n;omega) (aJX _ hp);rw[eB hn,aGE hn,Dc,hrs];simp only[Uu];rw[hsm];cases mb (okV n)<;>rfl
   rw[sK hs]
end Mo
end Go.Proofs.YtpbkhogolfegfaaGreatDoor
