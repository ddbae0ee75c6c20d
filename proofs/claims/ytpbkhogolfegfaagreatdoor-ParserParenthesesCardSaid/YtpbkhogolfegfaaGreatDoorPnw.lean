/- Part of a proof: see the last text. -/
import Derived.Test.YtpbkhogolfegfaaGreatDoorPnv
set_option linter.unusedVariables false
set_option linter.unusedSimpArgs false
set_option linter.defProp false
noncomputable section
open Array renaming ext'->bjQ
open Bool renaming and_eq_true->bcA,or_false->bqQ
open ByteArray renaming empty->V4
open Go.IntKind renaming u8->bpI
open List renaming all_eq_true->bkN,append_assoc->atS,append_nil->bcB,cons_append->bcE,drop_eq_getElem_cons->bkA,drop_zero->bjJ,eq_nil_of_length_eq_zero->biP,flatMap_cons->bjZ,flatMap_nil->boN,getElem?_cons_zero->bjV,getElem?_eq_getElem->abI,getElem?_map->biU,getElem?_take_of_lt->bpY,getElem_mem->bnJ,length_append->V5,length_cons->Yy,length_map->bjC,length_nil->aOD,length_singleton->bfG,length_take->bjG,map_append->bjS,map_cons->bjM,map_map->bmQ,map_nil->bmX,mem_cons->biX,mem_cons_of_mem->bjI,mem_range->blD,mem_singleton->bjB,nil_append->bcJ,range->bjR
open Nat renaming beq->bjO,ble->bmR,le_refl->aOC,zero_add->bcD
open Option renaming bind_some->NF
open Option.some renaming inj->bjE
namespace Go.Proofs.YtpbkhogolfegfaaGreatDoor
open AI Go LexS
namespace Mo
set_option maxRecDepth 100000
set_option maxHeartbeats 4000000
def Yj(u:List UInt8):List Ti->Prop
 | []=>True
 | p::r=>IH p.1/\(∀c∈p.2,cin 1 c=true)/\(p.1.1≠6->Fr (p.2++(Al r++u)))/\(p.1.1=6->Fs (p.2++(Al r++u)))/\Yj u r
def rN:∀ps:List Ti,Yj [] ps->okB ps
 | [],_=>trivial
 | p::r,h=>by
   obtain⟨a,b,c,d,e⟩:=h;rw[bcB] at c d;exact⟨a,b,c,d,rN r e⟩
def CN{u:List UInt8}:∀{A B:List Ti},Yj (Al B++u) A->Yj u B->Yj u (A++B)
 | [],_,_,h=>h
 | p::r,B,⟨a,b,c,d,e⟩,h=>by
   refine⟨a,b,?_,?_,CN e h⟩;intro q;have:=c q;show Fr (p.2++(Al (r++B)++u));rw[AB,atS];exact this;intro q;have:=d q;show Fs (p.2++(Al (r++B)++u));rw[AB,atS];exact this
def ne6{k:Nat}(h:bjO k 6=false):k≠6:=λe=>by subst e;cases h
def En(u:List UInt8):Prop:=Fr u/\Fs u
def aAD{c:UInt8}{v:List UInt8}(h1:cin 30 c=false)(h2:c≠46)(h3:c≠45):Fr (c::v):=by
 refine⟨?_,λe=>h3 (by simpa using e)⟩
 unfold free F7;simp[h1,h2]
def aNQ{c:UInt8}{v:List UInt8}(h1:c≠61)(h2:c≠47):Fs (c::v):=⟨λe=>h1 (by simpa using e),λe=>h2 (by simpa using e)⟩
def kI{c:UInt8}{v:List UInt8}(h:c=32\/c=41\/c=44\/c=59\/c=10):En (c::v):=by
 rcases h with rfl | rfl | rfl | rfl | rfl<;>exact⟨aAD (by decide) (by decide) (by decide),aNQ (by decide) (by decide)⟩
def apG:En []:=⟨⟨rfl,by simp⟩,by simp,by simp⟩
def E3{u:List UInt8}{k:Nat}{w:List UInt8}{r:List Ti}(h:IH (k,w,0))(hr:Yj u r):Yj u (T1 k w [32]::r) :=
 ⟨h,by intro c hc;rw[bjB] at hc;subst hc;decide,λ_=>(kI (.inl rfl)).1,λ_=>(kI (.inl rfl)).2,hr⟩
def Ii{u:List UInt8}{k:Nat}{w:List UInt8}{r:List Ti}(h:IH (k,w,0))(h1:k≠6->Fr (Al r++u))(h2:k=6->Fs (Al r++u))(hr:Yj u r):Yj u (T1 k w []::r) :=
 ⟨h,(by intro c hc;cases hc),h1,h2,hr⟩
def Fk{w:List UInt8}(h:w∈Fw):IH (6,w,0):=.inr (.inr (.inr (.inr (.inr ⟨rfl,h⟩))))
def aiQ{s:ByteArray}(h:JW s):IH (1,bL s,0):=by
 obtain⟨⟨a,b⟩,⟨c,hc,h1,h2⟩,_,hw⟩:=h;refine .inl ⟨rfl,a,b,?_,?_⟩
 · show F7 2 s.data.toList=true
   cases hs:s.data.toList with
   | nil=>rw[hs] at hc;cases hc
   | cons x t =>
     rw[hs] at hc;cases hc
     exact(bqQ _).symm.trans (by
       have:∀n < 256,97<=n->n<=122->((KX n &&& 2) != 0)=true:=by decide
       rw[bqQ];exact this c.toNat c.toNat_lt h1 h2)
 intro c hc;have:∀n < 256,(97<=n/\n<=122)\/(48<=n/\n<=57)\/n=95->((KX n &&& 26) != 0)=true:=by decide
 exact this c.toNat c.toNat_lt (hw c hc)
def adV{s:ByteArray}(h:dO s):IH (2,bL s,0):=by
 refine .inr (.inl ⟨rfl,h.1,λc hc=>?_⟩);have:∀n < 256,65<=n->n<=90->((KX n &&& 4) != 0)=true:=by decide
 exact this c.toNat c.toNat_lt (h.2 c hc).1 (h.2 c hc).2
def baK{s:ByteArray}(h:TM s):IH (1,bL s,0):=by
 rcases h with h | h | h | h<;>rw[h]<;>exact .inl ⟨rfl,by decide,by decide,by decide,by decide⟩
def baL{s:ByteArray}(h:bU s):IH (opK s,bL s,0):=by
 rcases h with h | h | h | h | h | h | h | h | h | h | h<;>rw[h]
 exact Fk (by decide);exact .inl ⟨rfl,by decide,by decide,by decide,by decide⟩;exact .inl ⟨rfl,by decide,by decide,by decide,by decide⟩;exact Fk (by decide);exact Fk (by decide);exact Fk (by decide);exact Fk (by decide);exact Fk (by decide);exact Fk (by decide);exact Fk (by decide);exact .inl ⟨rfl,by decide,by decide,by decide,by decide⟩
def aGT{s:ByteArray}(h:s=KA\/s=FX):IH (1,bL s,0):=by
 rcases h with h | h<;>rw[h]<;>exact .inl ⟨rfl,by decide,by decide,by decide,by decide⟩
def Hd1(l:List Ti):Prop:=∃p r,l=p::r/\IH p.1/\(p.1.1≠6\/p.1.2.1=[40])
def eC{m:Nat}{w v:List UInt8}(hm:m=2\/m=4\/m=8)(h1:1<=w.length)(h:F7 m w=true):Fs (w++v):=by
 cases w with
 | nil=>simp at h1
 | cons c t =>
   have hc:cin m c=true:=h;refine aNQ ?_ ?_<;>rintro rfl<;>rcases hm with rfl | rfl | rfl<;>exact absurd hc (by decide)
def aqD{x:LexS.Tok}(h:IH x)(h6:x.1≠6)(v:List UInt8):Fs (x.2.1++v):=by
 have hh:∀{m:Nat} {w:List UInt8},1<=w.length->(∀c∈w,cin m c=true)->F7 m w=true:=by
   intro m w h1 h2;cases w with
   | nil=>simp at h1
   | cons c t=>exact h2 c (by simp)
 rcases h with h | h | h | h | h | h
 exact eC (.inl rfl) h.2.1 h.2.2.2.1;exact eC (.inr (.inl rfl)) (by have:=h.2.1;omega) (hh (by have:=h.2.1;omega) h.2.2);exact eC (.inr (.inr rfl)) h.2.1 (hh h.2.1 h.2.2.2.1);obtain⟨_,d,a,b,e,n1,_⟩:=h;rw[e,atS];exact eC (.inr (.inr rfl)) n1.1 (hh n1.1 n1.2.2.1);obtain⟨_,e1,e2⟩:=h;have h0:=((TL _).1 e2).2 0 (by decide);have h0:F7 8 x.2.1=true:=h0;exact eC (.inr (.inr rfl)) (by omega) h0;exact absurd h.1 h6
def eE{l:List Ti}(h:Hd1 l)(v:List UInt8):Fs (Al l++v):=by
 obtain⟨p,r,rfl,hw,h6⟩:=h;rw[Al,atS];rcases h6 with h6 | h6
 exact aqD hw h6 _;rw[h6];exact aNQ (by decide) (by decide)
def agV{α:Type}{f:α->List Ti}{u:List UInt8}(hu:En u):∀(l:List α),(∀a∈l,∀u,En u->Yj u (f a))->Yj u (IF (l.map f))/\En (Al (IF (l.map f))++u)
 | [],_=>⟨trivial,hu⟩
 | a::l,h=>by
   obtain⟨h1,h2⟩:=agV hu l λb hb=>h b (by simp[hb]);have:IF ((a::l).map f)=T1 6 [44] [32]::(f a++IF (l.map f)):=by unfold IF;simp
   rw[this];exact⟨E3 (Fk (by decide)) (CN (h a (by simp) _ h2) h1),kI (.inr (.inr (.inl rfl)))⟩
def acN{α:Type}{f:α->List Ti}{u:List UInt8}(hu:En u)(l:List α)(h:∀a∈l,∀u,En u->Yj u (f a)):Yj u (OJ (l.map f)):=by
 cases l with
 | nil=>trivial
 | cons a l =>
   obtain⟨h1,h2⟩:=agV hu l λb hb=>h b (by simp[hb]);exact CN (h a (by simp) _ h2) h1
def aRT{n:Nd}(hu:Kw n.unit)(hn:0<=n.n/\n.n<=999999999999){u:List UInt8}(h:En u):Yj u (rF n)/\Hd1 (rF n):=by
 unfold rF;by_cases u1:n.unit=Cp;rw[if_pos u1];exact⟨Ii (MI hn 0) (λ_=>h.1) (λ_=>h.2) trivial,_,_,rfl,MI hn 0,.inl (ne6 rfl)⟩;rw[if_neg u1];by_cases u2:n.unit=Dz;rw[if_pos u2];exact⟨E3 (MI hn 0) (Ii (.inl ⟨rfl,by decide,by decide,by decide,by decide⟩) (λ_=>h.1) (λ_=>h.2) trivial),_,_,rfl,MI hn 0,.inl (ne6 rfl)⟩;rw[if_neg u2];by_cases u3:n.unit=E8;rw[if_pos u3]
 have hw:IH (1,bL (if n.n=1 then Uu else O3),0):=by
   by_cases h1:n.n=1;rw[if_pos h1];exact .inl ⟨rfl,by decide,by decide,by decide,by decide⟩;rw[if_neg h1];exact .inl ⟨rfl,by decide,by decide,by decide,by decide⟩
 exact⟨Ii hw (λ_=>h.1) (λ_=>h.2) trivial,_,_,rfl,hw,.inl (ne6 rfl)⟩;rw[if_neg u3]
 have hc:dO n.unit:=by
   rcases hu with h | h | h | h
   exact absurd h u3;exact absurd h u1;exact absurd h u2;exact h
 exact⟨E3 (adV hc) (Ii (pJ hn 0) (λ_=>h.1) (λ_=>h.2) trivial),_,_,rfl,adV hc,.inl (ne6 rfl)⟩
def cR{z m:Int}(h:-m<=z/\z<=m):0<=JH z/\JH z<=m:=by unfold JH;split<;>omega
def auF{d:Int}(hd:1<=d/\d<=1000000){p:Pc}(hp:nL d p){u:List UInt8}(h:En u):Yj u (Ow d p):=by
 obtain⟨hf,ha,hsl⟩:=hp;obtain⟨_,hz⟩:=aoX hd ha;have w1:=pJ hf 0;have w2:=pJ (cR hz) 0;have w3:=MI (n:=JH p.BJ) (by have:=cR hsl;omega) 0;have w4:=MI (n:=d) (by omega) 0;have wp:IH (6,(if p.BJ < 0 then [45] else [43]),0):=by split<;>exact Fk (by decide)
 have afK:Yj u [T1 4 (Xe (JH (p.Bc.tdiv d))) [32],T1 6 (if p.BJ < 0 then [45] else [43]) [32],T1 3 (Lf (JH p.BJ)) [],T1 6 [47] [],T1 3 (Lf d) []] :=
   E3 w2 (E3 wp (Ii w3 (λ_=>aAD (by decide) (by decide) (by decide)) (λe=>absurd e (by decide)) (Ii (Fk (by decide)) (λe=>absurd rfl e) (λ_=>by
     have:=aqD w4 (ne6 rfl) ([]++(Al []++u));rw[Al,atS];simpa using this) (Ii w4 (λ_=>h.1) (λ_=>h.2) trivial))))
 unfold Ow;refine CN (CN (E3 w1 (E3 (Fk (by decide)) trivial)) ?_) afK;by_cases hz0:p.Bc.tdiv d < 0;rw[if_pos hz0];refine Ii (Fk (by decide)) (λe=>absurd rfl e) (λ_=>?_) trivial;rw[Al,bcJ,Al,atS];exact aqD w2 (ne6 rfl) _;rw[if_neg hz0];trivial
def axE:∀(m:Nat) (n:Nd),Cr n<=m->OQ n->∀u,En u->Yj u (tF n)/\Hd1 (tF n):=by
 intro m
 induction m with
 | zero=>intro n h;have:=Cu n;omega
 | succ m ih =>
 intro n hm hx u hu;have hsz:=Cu n;obtain⟨hQ,Tj⟩:=(MF n).1 hx;have hk:∀k∈n.kids,∀u,En u->Yj u (tF k)/\Hd1 (tF k):=λk hk=>ih k (by have:=JE hk;omega) (Tj k hk);have e41:∀{v},En (41::v):=kI (.inr (.inl rfl));rw[ahY];unfold mA;by_cases jY:n.kind=11;rw[if_pos jY];obtain⟨a,b,c,_⟩:=(aaY jY).1 hQ;exact aRT a ⟨b,c⟩ hu;rw[if_neg jY];by_cases mU:n.kind=12\/n.kind=14;rw[if_pos mU]
 have hw:IH (1,bL n.name,0):=by
   rcases mU with h | h
   exact aiQ ((apN h).1 hQ).1;exact baK ((apP h).1 hQ).1
 exact⟨Ii hw (λ_=>hu.1) (λ_=>hu.2) trivial,_,_,rfl,hw,.inl (ne6 rfl)⟩;rw[if_neg mU];by_cases jZ:n.kind=13;rw[if_pos jZ];have hr:1<=n.n/\n.n<=1000000:=((apO jZ).1 hQ).1;have hw:IH (1,bL VV,0):=.inl ⟨rfl,by decide,by decide,by decide,by decide⟩;exact⟨E3 hw (Ii (MI (by omega) 0) (λ_=>hu.1) (λ_=>hu.2) trivial),_,_,rfl,hw,.inl (ne6 rfl)⟩;rw[if_neg jZ];by_cases kA:n.kind=15
 · rw[if_pos kA]
   have hl:=((apQ kA).1 hQ).1;generalize n.kids=ks at *
   match ks,hl with
   | [x],_ =>
   rw[show([x].map tF).getD 0 []=tF x from rfl];have hw:IH (1,bL LB,0):=.inl ⟨rfl,by decide,by decide,by decide,by decide⟩;obtain⟨h1,h2⟩:=hk x (by simp) (Al [T1 6 [41] []]++u) e41;exact⟨CN (CN (E3 hw (Ii (Fk (by decide)) (λe=>absurd rfl e) (λ_=>eE h2 _) trivial)) h1) (Ii (Fk (by decide)) (λe=>absurd rfl e) (λ_=>hu.2) trivial),_,_,rfl,hw,.inl (ne6 rfl)⟩
 rw[if_neg kA];by_cases kB:n.kind=16
 · rw[if_pos kB]
   obtain⟨_,hl,ho,_⟩:=(apR kB).1 hQ;have hwo:=baL ho;generalize n.kids=ks at *
   match ks,hl with
   | [x,y],_ =>
   rw[show([x,y].map tF).getD 0 []=tF x from rfl,show([x,y].map tF).getD 1 []=tF y from rfl];by_cases hd:n.name=BI;rw[if_pos hd];obtain⟨g1,g2⟩:=hk y (by simp) u hu;obtain⟨h1,h2⟩:=hk x (by simp) (Al [T1 6 [41] [32],T1 6 [47] [32]]++(Al (tF y)++u)) e41;exact⟨CN (CN (CN (Ii (Fk (by decide)) (λe=>absurd rfl e) (λ_=>eE h2 _) trivial) h1) (E3 (Fk (by decide)) (E3 (Fk (by decide)) trivial))) g1,_,_,rfl,Fk (by decide),.inr rfl⟩;rw[if_neg hd];obtain⟨g1,g2⟩:=hk y (by simp) (Al [T1 6 [41] []]++u) e41;obtain⟨h1,h2⟩:=hk x (by simp) (Al [T1 6 [41] [32],T1 (opK n.name) (bL n.name) [32],T1 6 [40] []]++(Al (tF y)++(Al [T1 6 [41] []]++u))) e41;exact⟨CN (CN (CN (CN (Ii (Fk (by decide)) (λe=>absurd rfl e) (λ_=>eE h2 _) trivial) h1) (E3 (Fk (by decide)) (E3 hwo (Ii (Fk (by decide)) (λe=>absurd rfl e) (λ_=>eE g2 _) trivial)))) g1) (Ii (Fk (by decide)) (λe=>absurd rfl e) (λ_=>hu.2) trivial),_,_,rfl,Fk (by decide),.inr rfl⟩
 rw[if_neg kB];by_cases kC:n.kind=18
 · rw[if_pos kC]
   obtain⟨_,ht,hl⟩:=(apT kC).1 hQ;obtain⟨hd,hn,hp⟩:=cF ht;generalize n.kids=ks at *
   match ks,hl with
   | [x],_ =>
   rw[show([x].map tF).getD 0 []=tF x from rfl];have hw:IH (1,bL IE,0):=.inl ⟨rfl,by decide,by decide,by decide,by decide⟩;obtain⟨h1,h2⟩:=hk x (by simp) (Al [T1 6 [59] [32]]++(Al (iS n.BK)++(Al [T1 6 [41] []]++u))) (kI (.inr (.inr (.inr (.inl rfl)))));exact⟨CN (CN (CN (CN (Ii hw (λ_=>aAD (by decide) (by decide) (by decide)) (λe=>absurd e (by decide)) (Ii (Fk (by decide)) (λe=>absurd rfl e) (λ_=>eE h2 _) trivial)) h1) (E3 (Fk (by decide)) trivial)) (acN e41 _ λp hp' u hu=>auF hd (hp p hp') hu)) (Ii (Fk (by decide)) (λe=>absurd rfl e) (λ_=>hu.2) trivial),_,_,rfl,hw,.inl (ne6 rfl)⟩
 rw[if_neg kC];have k17:n.kind=17:=by have:=Xp hQ;omega
 obtain⟨hnm,_,hl⟩:=(apS k17).1 hQ;have hw:=aGT hnm
 have hfs:∀v,Fs (Al (OJ (n.kids.map tF))++v):=by
   intro v;cases hc:n.kids with
   | nil=>rw[hc] at hl;simp at hl
   | cons a l =>
     rw[bjM,OJ,AB,atS];exact eE (hk a (by rw[hc];simp) [] apG).2 _
 exact⟨CN (CN (Ii hw (λ_=>aAD (by decide) (by decide) (by decide)) (λe=>absurd e (by decide)) (Ii (Fk (by decide)) (λe=>absurd rfl e) (λ_=>hfs _) trivial)) (acN e41 _ λk jW u hu=>(hk k jW u hu).1)) (Ii (Fk (by decide)) (λe=>absurd rfl e) (λ_=>hu.2) trivial),_,_,rfl,hw,.inl (ne6 rfl)⟩
section
variable (en:Int)
def Qj(e:Ek)(l:List Tk)(n:Nd)(r:List Tk):Prop:=∃q0,∀q,q0<=q->(gP en q).1 e l=some (.inl n,r)
end
section
variable {en:Int} {l r:List Tk} {n:Nd}
def nE{p:Prop}(h:p):mb p=true:=BP.2 h
def Ix{e:Ek}(h:∃q0,∀q,q0<=q->S9 en (gP en q).1 (gP en q).2 e l=some (.inl n,r)):Qj en e l n r:=by
 obtain⟨q0,h⟩:=h;refine⟨q0+1,λq hq=>?_⟩;obtain⟨q,rfl⟩:∃k,q=k+1:=⟨q - 1,by omega⟩;exact h q (by omega)
def gD{β:Type}{yes:ByteArray->Rd β}{no:Rd β}:∀{ops:List ByteArray},(∀x∈ops,DS x l=false)->tM yes no ops l=no l
 | [],_=>rfl
 | x::xs,h=>by
   rw[tM,KR,h x (by simp),cond_false];exact gD λy hy=>h y (by simp[hy])
def Rh(x:ByteArray)(t:Tk)(s:List Tk):DS x (t::s)=mb (t.text=x):=EJ ..
def bV{β:Type}{yes:ByteArray->Rd β}{no:Rd β}{t:Tk}{s:List Tk}:∀{ops:List ByteArray},t.text∈ops->tM yes no ops (t::s)=yes t.text s
 | [],h=>by cases h
 | x::xs,h=>by
   rw[tM,KR,Rh];by_cases e:t.text=x;rw[nE e,cond_true,QC,e];rw[LA e,cond_false];rcases biX.1 h with h | h
   exact absurd h e;exact bV h
def aeZ(h:Qj en (.lv 0) l n r):Qj en .ex l n r:=Ix h
def fU(h:Qj en .at_ l n r):Qj en (.lv 6) l n r:=Ix h
def ahU{g:Ek->Rd Nd}{li:Rd (List Nd)}{j:Nat}(h:j=0\/j=1\/j=4\/j=5):S9 en g li (.lv j)=LV en g j:=by
 rcases h with rfl | rfl | rfl | rfl<;>rfl
def bfY{j:Nat}(hj:j<=5)(h:Qj en (.lv (j+1)) l n r)(h1:∀x∈opsOf j,DS x r=false)(h2:j=2->DS LB l=false):Qj en (.lv j) l n r:=by
 obtain⟨q0,h⟩:=h;refine Ix ⟨q0,λq hq=>?_⟩;have h:=h q hq;by_cases j2:j=2;subst j2;show YK en (gP en q).1 l=_;unfold YK;rw[h2 rfl,cond_false,h];by_cases j3:j=3;subst j3;show Xi en (gP en q).1 l=_;unfold Xi BZ;rw[h];dsimp only;rw[gD h1];rfl;rw[ahU (by omega)];unfold LV BZ;rw[h];dsimp only;rw[JN,gD h1];rfl
def ZH:∀(d j:Nat),j+d<=6->Qj en (.lv (j+d)) l n r->(∀k,j<=k->k < j+d->∀x∈opsOf k,DS x r=false)->(j<=2->2 < j+d->DS LB l=false)->Qj en (.lv j) l n r
 | 0,_,_,h,_,_=>h
 | d+1,j,hd,h,h1,h2=>bfY (by omega) (ZH d (j+1) (by omega) (by rw[show j+1+d=j+(d+1) by omega];exact h) (λk a b=>h1 k (by omega) (by omega)) λa b=>h2 (by omega) (by omega)) (h1 j (by omega) (by omega)) λe=>h2 (by omega) (by omega)
def ahJ{sub:Rd Nd}{op:ByteArray}{a b c:Nd}{s:List Tk}(Zz:op≠BI)(h:sub s=some (.inl b,r))(hb:AY op a b=some c):PJ en sub op a s=some (.inl c,r):=by
 unfold PJ BZ;rw[EJ,LA Zz,cond_false,h];dsimp only;unfold IN;rw[hb];rfl
def aYP{j:Nat}(hj:j=0\/j=1\/j=3\/j=4\/j=5){t:Tk}{s:List Tk}{a b c:Nd}(h1:Qj en (.lv (j+1)) l a (t::s))(ht:t.text∈opsOf j)(Zz:t.text≠BI)(h2:Qj en (.lv (j+1)) s b r)
   (hb:AY t.text a b=some c) (hr:∀x∈opsOf j,DS x r=false):Qj en (.lv j) l c r:=by
 obtain⟨q1,h1⟩:=h1;obtain⟨q2,h2⟩:=h2;refine Ix ⟨max q1 q2,λq hq=>?_⟩;have h1:=h1 q (by omega);have h2:=h2 q (by omega);by_cases j3:j=3;subst j3;show Xi en (gP en q).1 l=_;unfold Xi BZ;rw[h1];dsimp only;rw[bV ht];exact ahJ Zz h2 hb;rw[ahU (by omega)];unfold LV;show(BZ ((gP en q).1 (.lv (j+1))) _) l=_;unfold BZ;rw[h1];dsimp only;rw[JN,bV ht];unfold BZ;rw[ahJ Zz h2 hb];dsimp only;rw[Yy,JN,gD hr];rfl
def aRI{t:Tk}{s:List Tk}{k:Nd}(ht:t.text=LB)(ha:t.Bc=0)(h:Qj en (.lv 2) s k r):Qj en (.lv 2) (t::s) (C6 15 bE bE 0 [k] 0) r:=by
 obtain⟨q0,h⟩:=h;refine Ix ⟨q0,λq hq=>?_⟩;show YK en (gP en q).1 (t::s)=_;unfold YK;rw[Rh,nE ht,cond_true];unfold BZ II Ly SA;dsimp only;unfold IN CM;rw[EJ,nE ht];dsimp only[cond];unfold QC Gb;dsimp only;rw[h q hq,ha]
def Jh{x:ByteArray}{t:Tk}{s:List Tk}(ht:t.text=x):II en x (t::s)=some (.inl t,s):=by
 unfold II Ly SA;dsimp only;unfold IN CM;rw[EJ,nE ht];rfl
def BW{α β:Type}{m:Rd α}{k:α->Rd β}{a:α}{s:List Tk}(h:m l=some (.inl a,s)):BZ m k l=k a s:=by unfold BZ;rw[h]
def akK{t:Tk}(h:t.kind≠1):BA t=some false:=by
 rw[BA,BY,LA h];rfl
def jI{t:Tk}{s:List Tk}(h3:t.kind≠3)(h2:t.kind≠2)(hn:BA t=some false)(h:∃q0,∀q,q0<=q->VN en (gP en q).1 t (t::s)=some (.inl n,r)):Qj en .at_ (t::s) n r:=by
 obtain⟨q0,h⟩:=h;refine Ix ⟨q0+1,λq hq=>?_⟩;obtain⟨q,rfl⟩:∃k,q=k+1:=⟨q - 1,by omega⟩;show OZ en (gP en (q+1)).1 (t::s)=_;unfold OZ SA;dsimp only;rw[BY,LA h3,cond_false,BY,LA h2,cond_false];unfold IN;rw[hn];dsimp only[cond];exact h q (by omega)
def T9{K:List Tk}(h:Qj en .ex K n (⟨6,CX,0⟩::r)):Qj en .at_ (⟨6,Ec,0⟩::K) n r:=by
 obtain⟨q0,h⟩:=h;refine jI (by decide) (by decide) (akK (by decide)) ⟨q0,λq hq=>?_⟩;unfold VN;show(QC (BZ ((gP en q).1 .ex) λa=>BZ (II en CX) λ_=>Gb a)) ((⟨6,Ec,0⟩:Tk)::K)=_;unfold QC;dsimp only;rw[BW (h q hq),BW (Jh (x:=CX) (t:=⟨6,CX,0⟩) rfl)];rfl
def aBX{s:ByteArray}(h:JW s):Qj en .at_ (⟨1,s,0⟩::r) (C6 12 s bE 0 [] 0) r:=by
 refine Ix ⟨0,λq _=>?_⟩;show OZ en (gP en q).1 (_::r)=_;unfold OZ SA;dsimp only;rw[BY,LA (by decide),cond_false,BY,LA (by decide),cond_false];unfold IN;rw[BA,BY,nE rfl,cond_true,wI,LA h.2.2.1];rfl
def atQ{z:Int}(h:0<=z/\z<=999999999999):Oq en (⟨3,⟨(Lf z).toArray⟩,0⟩::r)=some (.inl (z,0),r):=by
 unfold Oq;rw[BW (a:=(⟨3,⟨(Lf z).toArray⟩,0⟩:Tk)) (s:=r) rfl];unfold IN;rw[aVE h];rfl
def ZL{z least:Int}(h:0<=least/\least<=z/\z<=1000000):L7 en least (⟨3,⟨(Lf z).toArray⟩,0⟩::r)=some (.inl (z,0),r):=by
 unfold L7;rw[BW (atQ (by omega))];dsimp only;rw[DQ (by omega),DQ (by omega)];rfl
def aRM{z:Int}(h:0<=z/\z<=999999999999)(hr:DS fX r=false):Qj en .at_ (⟨3,⟨(Lf z).toArray⟩,0⟩::r) (C6 11 bE Cp z [] 0) r:=by
 refine Ix ⟨0,λq _=>?_⟩;show OZ en (gP en q).1 (_::r)=_;unfold OZ SA;dsimp only;rw[BY,nE rfl,cond_true,BW (atQ h)];unfold KR;rw[hr];rfl
def aRD{z:Int}(h:0<=z/\z<=999999999999):Qj en .at_ (⟨3,⟨(Lf z).toArray⟩,0⟩::⟨1,fX,0⟩::r) (C6 11 bE Dz z [] 0) r:=by
 refine Ix ⟨0,λq _=>?_⟩;show OZ en (gP en q).1 (_::_)=_;unfold OZ SA;dsimp only;rw[BY,nE rfl,cond_true,BW (atQ h)];unfold KR;rw[Rh,nE rfl];rfl
def aMU{z:Int}(h:0<=z/\z<=999999999999)(s:ByteArray):Qj en .at_ (⟨2,s,0⟩::⟨4,⟨(Xe z).toArray⟩,0⟩::r) (C6 11 bE s z [] 0) r:=by
 refine Ix ⟨0,λq _=>?_⟩;show OZ en (gP en q).1 (_::_)=_;unfold OZ SA;dsimp only;rw[BY,LA (by decide),cond_false,BY,nE rfl,cond_true];unfold QC;dsimp only;rw[BW (a:=(⟨4,⟨(Xe z).toArray⟩,0⟩:Tk)) (s:=r) rfl];unfold IN;rw[aIB h];rfl
def YE{s:ByteArray}(h:s∈RD){a:Int}:BA ⟨1,s,a⟩=some false:=by
 rw[BA,BY,nE rfl,cond_true,wI,nE h];rfl
def axM{z:Int}(h:0<=z/\z<=1):Qj en .at_ (⟨1,if z=1 then Uu else O3,0⟩::r) (C6 11 bE E8 z [] 0) r:=by
 by_cases h1:z=1;subst h1;rw[if_pos rfl];exact jI (by decide) (by decide) (YE (by unfold RD;simp)) ⟨0,λq _=>rfl⟩;obtain rfl:z=0:=by omega
 rw[if_neg (by decide)];exact jI (by decide) (by decide) (YE (by unfold RD;simp)) ⟨0,λq _=>rfl⟩
def aMD{z:Int}(h:1<=z/\z<=1000000):Qj en .at_ (⟨1,VV,0⟩::⟨3,⟨(Lf z).toArray⟩,0⟩::r) (C6 13 bE bE z [] 0) r:=by
 refine jI (by decide) (by decide) (YE (by unfold RD;simp)) ⟨0,λq _=>?_⟩;show QC (BZ (L7 en 1) λp=>Gb (C6 13 bE bE p.1 [] 0)) ((⟨1,VV,0⟩:Tk)::⟨3,⟨(Lf z).toArray⟩,0⟩::r)=_;unfold QC;dsimp only;rw[BW (ZL (by omega))];rfl
def aVU{s:ByteArray}(h:TM s):Qj en .at_ (⟨1,s,0⟩::r) (C6 14 s bE 0 [] 0) r:=by
 rcases h with rfl | rfl | rfl | rfl<;>exact jI (by decide) (by decide) (YE (by unfold RD;simp)) ⟨0,λq _=>rfl⟩
end
abbrev tk(l:List Ti):List Tk:=l.map λp=>JV p.1
section
variable {en:Int}
def Cm(s:List Tk):Prop:=∃t u,s=t::u/\(t=⟨6,G3,0⟩\/t=⟨6,CX,0⟩\/t=⟨6,CV,0⟩)
def agK{f:Nd->List Tk}{v:Nd->Nd}{e:Tk}{r:List Tk}(he:e=⟨6,CX,0⟩\/e=⟨6,CV,0⟩):∀(l acc:List Nd),acc.length+l.length<=1000000->(∀k∈l,∀s,Cm s->Qj en .ex (f k++s) (v k) s) ->
   ∃q0,∀q,q0<=q->∀fuel,l.length < fuel->N6 ((gP en q).1 .ex) fuel acc ((l.flatMap λk=>(⟨6,G3,0⟩:Tk)::f k)++e::r)=some (.inl (acc++l.map v),e::r)
 | [],acc,_,_=>⟨0,λq _ fuel hf=>by
   obtain⟨m,rfl⟩:∃k,fuel=k+1:=⟨fuel - 1,by simp at hf;omega⟩;have:DS G3 (e::r)=false:=by rcases he with rfl | rfl<;>rfl
   rw[boN,bcJ,N6,KR,this,cond_false,bmX,bcB];rfl⟩
 | k::l,acc,hl,h=>by
   rw[Yy] at hl;obtain⟨q1,h1⟩:=agK he l (acc++[v k]) (by simp only[V5,bfG];omega) λx hx=>h x (by simp[hx])
   have hc:Cm ((l.flatMap λk=>(⟨6,G3,0⟩:Tk)::f k)++e::r):=by
     cases l with
     | nil=>exact⟨e,r,rfl,.inr he⟩
     | cons x l=>exact⟨_,_,rfl,.inl rfl⟩
   obtain⟨q2,h2⟩:=h k (by simp) _ hc;refine⟨max q1 q2,λq hq fuel hf=>?_⟩;obtain⟨m,rfl⟩:∃k,fuel=k+1:=⟨fuel - 1,by simp at hf;omega⟩;rw[Yy] at hf;have h1:=h1 q (by omega) m (by omega);have h2:=h2 q (by omega);rw[bjZ,N6,KR];have hs:DS G3 (((⟨6,G3,0⟩:Tk)::f k)++(l.flatMap λk=>(⟨6,G3,0⟩:Tk)::f k)++e::r)=true:=rfl;rw[atS] at hs ⊢;rw[hs,cond_true];show(QC _) ((⟨6,G3,0⟩:Tk)::(f k++_))=_;unfold QC;dsimp only;rw[BW h2];unfold Mh;rw[Dw (by omega),h1];simp
def abC(f:Nd->List Tk):∀l:List Nd,l.length<=(l.flatMap λk=>(⟨6,G3,0⟩:Tk)::f k).length
 | []=>aOC _
 | x::l=>by
   have:=abC f l;rw[bjZ,V5,Yy,Yy];omega
def azF{f:Nd->List Tk}{v:Nd->Nd}{s:ByteArray}{r:List Tk}(hs:s=KA\/s=FX){a b:Nd}{l:List Nd}(hl:l.length<=100000)(h:∀k∈a::b::l,∀s,Cm s->Qj en .ex (f k++s) (v k) s) :
   Qj en .at_ (⟨1,s,0⟩::⟨6,Ec,0⟩::(f a++(((b::l).flatMap λk=>(⟨6,G3,0⟩:Tk)::f k)++⟨6,CX,0⟩::r))) (C6 17 s bE 0 ((a::b::l).map v) 0) r:=by
 have hc:∀l:List Nd,Cm ((l.flatMap λk=>(⟨6,G3,0⟩:Tk)::f k)++(⟨6,CX,0⟩:Tk)::r):=by
   intro l;cases l with
   | nil=>exact⟨_,r,rfl,.inr (.inl rfl)⟩
   | cons x l=>exact⟨_,_,rfl,.inl rfl⟩
 obtain⟨q1,h1⟩:=h a (by simp) _ (hc (b::l));obtain⟨q2,h2⟩:=h b (by simp) _ (hc l);obtain⟨q3,h3⟩:=agK (en:=en) (e:=⟨6,CX,0⟩) (r:=r) (.inl rfl) l [v b] (by simp only[bfG];omega) λk hk=>h k (by simp[hk])
 have key:∀q,max q1 (max q2 q3)+1<=q->dI en (gP en q).1 (gP en q).2 (⟨1,s,0⟩::⟨6,Ec,0⟩::(f a++(((b::l).flatMap λk=>(⟨6,G3,0⟩:Tk)::f k)++⟨6,CX,0⟩::r)))=some (.inl (C6 17 s bE 0 ((a::b::l).map v) 0),r):=by
   intro q hq;obtain⟨q,rfl⟩:∃k,q=k+1:=⟨q - 1,by omega⟩;have h1:=h1 (q+1) (by omega);have h2:=h2 q (by omega);have h3:=h3 q (by omega);unfold dI SA;dsimp only;unfold QC;dsimp only;rw[BW (Jh (x:=Ec) (t:=⟨6,Ec,0⟩) rfl),BW h1];show(BZ (II en G3) _) ((⟨6,G3,0⟩:Tk)::(f b++(l.flatMap λk=>(⟨6,G3,0⟩:Tk)::f k))++_)=_;rw[bcE,BW (Jh (x:=G3) (t:=⟨6,G3,0⟩) rfl),atS]
   have hli:(gP en (q+1)).2 (f b++((l.flatMap λk=>(⟨6,G3,0⟩:Tk)::f k)++⟨6,CX,0⟩::r))=some (.inl (v b::l.map v),⟨6,CX,0⟩::r):=by
     show Qu ((gP en q).1 .ex) _=_;unfold Qu;rw[BW h2]
     rw[h3 _ (by
       have hlf:=abC f l;simp only[V5,Yy];omega)]
     rfl
   rw[BW hli];unfold Mh;rw[Dw (by simp only[Yy,bjC];omega),BW (Jh (x:=CX) (t:=⟨6,CX,0⟩) rfl)];rfl
 have hca:Qj en .ca (⟨1,s,0⟩::⟨6,Ec,0⟩::(f a++(((b::l).flatMap λk=>(⟨6,G3,0⟩:Tk)::f k)++⟨6,CX,0⟩::r))) (C6 17 s bE 0 ((a::b::l).map v) 0) r:=Ix ⟨_,key⟩;obtain⟨q4,h4⟩:=hca;rcases hs with rfl | rfl<;>exact jI (by decide) (by decide) (YE (by unfold RD;simp)) ⟨q4,λq hq=>h4 q hq⟩
def gJ(d:Int)(p:Pc):Pt:=⟨p.fr,p.Bc.tdiv d,p.BJ,d⟩
def axZ{z:Int}(h:0<=z/\z<=999999999999){r:List Tk}:NV en (⟨4,⟨(Xe z).toArray⟩,0⟩::r)=some (.inl (z,0),r):=by
 unfold NV;rw[BW (a:=(⟨4,⟨(Xe z).toArray⟩,0⟩:Tk)) (s:=r) rfl];unfold IN;rw[aIB h];rfl
def aWD{d:Int}(h:1<=d):qD 1 d=some 1:=by
 unfold qD;rw[if_pos ⟨by omega,by omega⟩];obtain⟨m,rfl⟩:∃m:Nat,d=(m:Int)+1:=⟨(d - 1).toNat,by omega⟩;rw[show((m:Int)+1).toNat+1=m+2 by omega,Z0,if_neg (by omega),Z0];congr 1;by_cases h0:m=0;subst h0;rfl;rw[show(1:Int) % ((m:Int)+1)=1 from Int.emod_eq_of_lt (by omega) (by omega),if_neg (by omega)];obtain⟨m,rfl⟩:∃k,m=k+1:=⟨m - 1,by omega⟩;rw[Z0,if_pos (Int.emod_one _)]
def aWE{d:Int}(h:1<=d):qD d d=some d:=by
 unfold qD;rw[if_pos ⟨by omega,by omega⟩];obtain⟨m,rfl⟩:∃m:Nat,d=(m:Int)+1:=⟨(d - 1).toNat,by omega⟩;rw[show((m:Int)+1).toNat+1=m+2 by omega,Z0,if_neg (by omega),Z0,if_pos (Int.emod_self)]
def aoY{d:Int}(h:1<=d/\d<=1000000):Oj d d=some 1:=by
 have:=(aoX (a:=d) h (by omega)).1;rw[this,Int.tdiv_self (by omega)]
def aJR{d:Int}(hd:1<=d/\d<=1000000){p:Pc}(hp:nL d p){bef:List Pt}{c:Int}{r:List Tk}(hc:c=1\/c=d)(h0:bef.length=0->p.fr=0)(h1:0 < bef.length->bef.length < 64/\∃q,bef[bef.length - 1]?=some q/\q.fr < p.fr) :
   Uf en bef c (tk (Ow d p)++r)=some (.inl (gJ d p,d),r):=by
 obtain⟨hf,ha,hsl⟩:=hp;obtain⟨_,hz⟩:=aoX hd ha
 have e2:Ox en c p.fr (⟨6,PG,0⟩::(tk ((if p.Bc.tdiv d < 0 then [T1 6 [45] []] else [])++[T1 4 (Xe (JH (p.Bc.tdiv d))) [32],T1 6 (if p.BJ < 0 then [45] else [43]) [32],T1 3 (Lf (JH p.BJ)) [],T1 6 [47] [],T1 3 (Lf d) []])++r))=some (.inl (gJ d p,d),r):=by
   have e3:∀a:Int,QB en c p.fr a (⟨6,⟨(if p.BJ < 0 then [45] else [43]:List UInt8).toArray⟩,0⟩::⟨3,⟨(Lf (JH p.BJ)).toArray⟩,0⟩::⟨6,BI,0⟩::⟨3,⟨(Lf d).toArray⟩,0⟩::r)=some (.inl (⟨p.fr,a,p.BJ,d⟩,d),r):=by
     intro a
     have hsg:iK en (⟨6,⟨(if p.BJ < 0 then [45] else [43]:List UInt8).toArray⟩,0⟩::⟨3,⟨(Lf (JH p.BJ)).toArray⟩,0⟩::⟨6,BI,0⟩::⟨3,⟨(Lf d).toArray⟩,0⟩::r)=some (.inl (if p.BJ < 0 then -1 else 1),⟨3,⟨(Lf (JH p.BJ)).toArray⟩,0⟩::⟨6,BI,0⟩::⟨3,⟨(Lf d).toArray⟩,0⟩::r):=by
       by_cases hs:p.BJ < 0;rw[if_pos hs,if_pos hs];rfl;rw[if_neg hs,if_neg hs];rfl
     unfold QB;rw[BW hsg,BW (ZL (by have:=cR hsl;omega)),BW (Jh (x:=BI) (t:=⟨6,BI,0⟩) rfl),BW (ZL (by omega))];dsimp only
     have hg:∃g,qD c d=some g/\Oj c g=some 1:=by
       rcases hc with rfl | rfl
       exact⟨1,aWD hd.1,rfl⟩;exact⟨_,aWE hd.1,aoY hd⟩
     obtain⟨g,hg1,hg2⟩:=hg;unfold IN;rw[hg1];dsimp only;rw[hg2];dsimp only;have hw:CK 1 d=d:=by rw[FG (by omega)];omega
     rw[hw,DQ (by omega),cond_false]
     have hw2:CK (JH p.BJ) (if p.BJ < 0 then -1 else 1)=p.BJ:=by
       have:=cR hsl;unfold JH at this ⊢;split at this;rw[if_pos ‹_›,if_pos ‹_›,FG (by omega)];omega;rw[if_neg ‹_›,if_neg ‹_›,FG (by omega)];omega
     rw[hw2];rfl
   unfold Ox;rw[BW (Jh (x:=PG) (t:=⟨6,PG,0⟩) rfl)];unfold KR;have eU:=cR hz;by_cases hz0:p.Bc.tdiv d < 0;rw[if_pos hz0];have ez:JH (p.Bc.tdiv d)=-(p.Bc.tdiv d):=if_pos hz0;show cond (DS Fj ((⟨6,Fj,0⟩:Tk)::_)) _ _=_;rw[Rh,nE rfl,cond_true];show(QC _) ((⟨6,Fj,0⟩:Tk)::(⟨4,⟨(Xe (JH (p.Bc.tdiv d))).toArray⟩,0⟩:Tk)::_)=_;unfold QC;dsimp only;rw[BW (axZ eU)];dsimp only;have hw:CK (JH (p.Bc.tdiv d)) (-1)=p.Bc.tdiv d:=by rw[FG (by omega),ez];omega
   rw[hw];exact e3 _;rw[if_neg hz0,bcJ];have ez:JH (p.Bc.tdiv d)=p.Bc.tdiv d:=if_neg hz0;show cond (DS Fj ((⟨4,⟨(Xe (JH (p.Bc.tdiv d))).toArray⟩,0⟩:Tk)::_)) _ _=_
   have hne:(⟨(Xe (JH (p.Bc.tdiv d))).toArray⟩:ByteArray)≠Fj:=by
     intro e;have e1:=congrArg (λs:ByteArray=>s.data.toList.length) e;have:(Xe (JH (p.Bc.tdiv d))).length=1:=by simpa[Fj] using e1
     unfold Xe at this;simp at this
   rw[Rh,LA hne,cond_false];show(BZ (NV en) _) ((⟨4,⟨(Xe (JH (p.Bc.tdiv d))).toArray⟩,0⟩:Tk)::_)=_;rw[BW (axZ eU)];dsimp only;have hw:CK (JH (p.Bc.tdiv d)) 1=p.Bc.tdiv d:=by rw[FG (by omega),ez];omega
   rw[hw];exact e3 _
 have beH:tk (Ow d p)++r=(⟨4,⟨(Xe p.fr).toArray⟩,0⟩:Tk)::⟨6,PG,0⟩::(tk ((if p.Bc.tdiv d < 0 then [T1 6 [45] []] else [])++[T1 4 (Xe (JH (p.Bc.tdiv d))) [32],T1 6 (if p.BJ < 0 then [45] else [43]) [32],T1 3 (Lf (JH p.BJ)) [],T1 6 [47] [],T1 3 (Lf d) []])++r):=by
   unfold Ow;rw[atS];rfl
 rw[beH];unfold Uf;rw[BW (axZ hf)];dsimp only;by_cases hb:bef.length=0;rw[Ie (by omega),cond_true,Ie (h0 hb),cond_true];exact e2;obtain⟨g1,q,g2,g3⟩:=h1 (by omega);rw[Kr (by omega),cond_false];unfold IN;rw[g2];dsimp only;rw[G6,LA (by omega),cond_false,G6,LA (by omega),cond_false];exact e2
end
def EK(a b:List Ti):tk (a++b)=tk a++tk b:=bjS
def aiA{α:Type}(f:α->List Ti):∀l:List α,tk (IF (l.map f))=l.flatMap λk=>(⟨6,G3,0⟩:Tk)::tk (f k)
 | []=>rfl
 | a::l=>by
   have:IF ((a::l).map f)=T1 6 [44] [32]::(f a++IF (l.map f)):=by unfold IF;simp
   rw[this,bjZ,<- aiA f l];show(⟨6,G3,0⟩:Tk)::tk (f a++IF (l.map f))=_;rw[EK];rfl
def iT{α:Type}(f:α->List Ti)(a:α)(l:List α):tk (OJ ((a::l).map f))=tk (f a)++l.flatMap λk=>(⟨6,G3,0⟩:Tk)::tk (f k):=by
 rw[bjM,OJ,EK,aiA]
section
variable {en:Int}
def alE{f:Fn}(h:Zd f){r:List Tk}:∀(d i:Nat),i+(d+1)=f.ps.length->∀(c:Int),(c=1\/c=f.den)->∀fuel,d < fuel ->
   K1 en fuel ((f.ps.take i).map (gJ f.den)) c (tk (OJ ((f.ps.drop i).map (Ow f.den)))++⟨6,CX,0⟩::r)=some (.inl (f.ps.map (gJ f.den),f.den),⟨6,CX,0⟩::r):=by
 obtain⟨hd,hn,hp⟩:=cF h;intro d
 induction d with
 | zero =>
   intro i hi c hc fuel hf;obtain⟨m,rfl⟩:∃k,fuel=k+1:=⟨fuel - 1,by omega⟩;have hlt:i < f.ps.length:=by omega
   have zZ:f.ps.drop i=[f.ps[i]]:=by rw[bkA hlt,List.drop_eq_nil_of_le (by omega)]
   rw[zZ,iT,boN,bcB,K1]
   have aPR:=aJR (en:=en) hd (hp f.ps[i] (bnJ hlt)) (bef:=(f.ps.take i).map (gJ f.den)) (c:=c) (r:=(⟨6,CX,0⟩:Tk)::r) hc (by
     intro h0;have:i=0:=by rw[bjC,bjG] at h0;omega
     subst this;exact h.2.2.1 _ (abI hlt)) (by
     intro h0;have hli:((f.ps.take i).map (gJ f.den)).length=i:=by simp;omega
     rw[hli] at h0 ⊢;refine⟨by omega,gJ f.den (f.ps[i - 1]'(by omega)),?_,?_⟩;rw[biU,bpY (by omega),abI (show i - 1 < f.ps.length by omega)];rfl;exact(h.2.2.2 i _ (abI hlt)).2.1 _ h0 (abI (show i - 1 < f.ps.length by omega)))
   rw[BW aPR]
   have TW:(f.ps.take i).map (gJ f.den)++[gJ f.den f.ps[i]]=f.ps.map (gJ f.den):=by
     have:f.ps=f.ps.take i++[f.ps[i]]:=by rw[<- zZ,List.take_append_drop]
     conv=>rhs;rw[this]
     rw[bjS];rfl
   unfold Mh;rw[Dw (by simp;omega)];dsimp only;rw[TW];unfold KR;rw[show DS G3 ((⟨6,CX,0⟩:Tk)::r)=false from rfl];rfl
 | succ d ih =>
   intro i hi c hc fuel hf;obtain⟨m,rfl⟩:∃k,fuel=k+1:=⟨fuel - 1,by omega⟩;have hlt:i < f.ps.length:=by omega
   have aAU:i+1 < f.ps.length:=by omega
   have zZ:f.ps.drop i=f.ps[i]::f.ps[i+1]::f.ps.drop (i+2):=by rw[bkA hlt,bkA aAU]
   have bcS:f.ps.drop (i+1)=f.ps[i+1]::f.ps.drop (i+2):=by rw[bkA aAU]
   have ih:=ih (i+1) (by omega) f.den (.inr rfl) m (by omega);rw[bcS,iT] at ih;rw[zZ,iT,bjZ,K1,atS]
   have aPR:=λr=>aJR (en:=en) hd (hp f.ps[i] (bnJ hlt)) (bef:=(f.ps.take i).map (gJ f.den)) (c:=c) (r:=r) hc (by
     intro h0;have:i=0:=by rw[bjC,bjG] at h0;omega
     subst this;exact h.2.2.1 _ (abI hlt)) (by
     intro h0;have hli:((f.ps.take i).map (gJ f.den)).length=i:=by simp;omega
     rw[hli] at h0 ⊢;refine⟨by omega,gJ f.den (f.ps[i - 1]'(by omega)),?_,?_⟩;rw[biU,bpY (by omega),abI (show i - 1 < f.ps.length by omega)];rfl;exact(h.2.2.2 i _ (abI hlt)).2.1 _ h0 (abI (show i - 1 < f.ps.length by omega)))
   rw[BW (aPR _)]
   have TW:(f.ps.take i).map (gJ f.den)++[gJ f.den f.ps[i]]=(f.ps.take (i+1)).map (gJ f.den):=by
     rw[List.take_succ_eq_append_getElem hlt,bjS];rfl
   unfold Mh;rw[Dw (by simp;omega)];dsimp only;rw[TW];unfold KR;rw[show ∀s:List Tk,DS G3 (((⟨6,G3,0⟩:Tk)::tk (Ow f.den f.ps[i+1]))++s++⟨6,CX,0⟩::r)=true from λ_=>rfl,cond_true];show(QC _) ((⟨6,G3,0⟩:Tk)::((tk (Ow f.den f.ps[i+1])++_)++_))=_;unfold QC;dsimp only;exact ih
def nX{d p:Int}(hd:1<=d/\d<=1000000){r:List Tk}:∀(l:List Pc) (acc:List Pc),acc.length+l.length<=1000->(∀x∈l,nL d x/\x.Bc.tdiv d*d=x.Bc)->Mb d p (l.map (gJ d)) acc r=some (.inl (acc++l),r)
 | [],acc,_,_=>by rw[bmX,Mb,bcB];rfl
 | x::l,acc,hl,h=>by
   obtain⟨⟨hf,ha,hsl⟩,hm⟩:=h x (by simp);rw[Yy] at hl;rw[bjM,Mb];unfold IN;rw[show(gJ d x).den=d from rfl,aoY hd];dsimp only
   have e1:CK (gJ d x).num 1=x.BJ:=by
     show CK x.BJ 1=_;rw[FG (by omega)];omega
   have e2:CK (gJ d x).Bc d=x.Bc:=by
     show CK (x.Bc.tdiv d) d=_;rw[FG (by rw[hm];omega),hm]
   rw[e1,e2,DQ (by omega),cond_false,DQ (by omega),cond_false];unfold Mh;rw[Dw (by omega),nX hd l _ (by simp only[V5,bfG];omega) λy hy=>h y (by simp[hy])];simp[gJ]
def axG{f:Fn}(h:Zd f){K:List Tk}{a:Nd}{r:List Tk}(ha:Qj en .ex K a (⟨6,CV,0⟩::(tk (iS f)++⟨6,CX,0⟩::r))) :
   Qj en .at_ (⟨1,IE,0⟩::⟨6,Ec,0⟩::K) ⟨18,bE,bE,0,0,0,0,f,[a],0⟩ r:=by
 obtain⟨hd,hn,hp⟩:=cF h;obtain⟨q0,ha⟩:=ha;have hpl:tk (iS f)=tk (OJ ((f.ps.drop 0).map (Ow f.den))):=rfl
 have key:∀q,q0<=q->WG en (gP en q).1 (⟨1,IE,0⟩::⟨6,Ec,0⟩::K)=some (.inl ⟨18,bE,bE,0,0,0,0,f,[a],0⟩,r):=by
   intro q hq;unfold WG;rw[BW (Jh (x:=IE) (t:=⟨1,IE,0⟩) rfl),BW (Jh (x:=Ec) (t:=⟨6,Ec,0⟩) rfl),BW (ha q hq),BW (Jh (x:=CV) (t:=⟨6,CV,0⟩) rfl)]
   have hlen:f.ps.length<=(tk (iS f)++(⟨6,CX,0⟩:Tk)::r).length:=by
     have:∀l:List Pc,l.length<=(OJ (l.map (Ow f.den))).length:=by
       intro l
       have ht:∀l:List Pc,l.length<=(IF (l.map (Ow f.den))).length:=by
         intro l
         induction l with
         | nil=>exact aOC _
         | cons x l ih =>
           have:IF ((x::l).map (Ow f.den))=T1 6 [44] [32]::(Ow f.den x++IF (l.map (Ow f.den))):=by unfold IF;simp
           rw[this,Yy,Yy,V5];omega
       cases l with
       | nil=>exact aOC _
       | cons x l =>
         rw[bjM,OJ,V5,Yy];have:=ht l;have h1:1<=(Ow f.den x).length:=by unfold Ow;simp
         omega
     have:=this f.ps;rw[V5,bjC,Yy];show _<=(OJ _).length+_;omega
   have hpi:=alE (en:=en) h (r:=r) (f.ps.length - 1) 0 (by omega) 1 (.inl rfl) ((tk (iS f)++(⟨6,CX,0⟩:Tk)::r).length+1) (by omega);rw[show(f.ps.take 0).map (gJ f.den)=[] from rfl,<- hpl] at hpi;refine(BW (m:=λs=>K1 en (s.length+1) [] 1 s) (a:=(f.ps.map (gJ f.den),f.den)) (s:=(⟨6,CX,0⟩:Tk)::r) hpi).trans ?_;rw[BW (Jh (x:=CX) (t:=⟨6,CX,0⟩) rfl)];unfold Mh;dsimp only
   rw[Dw (by simp;omega),BW (nX hd f.ps [] (by simp;omega) λx hx=>⟨hp x hx,by
     obtain⟨i,hi⟩:=List.getElem?_of_mem hx;have hm:=(h.2.2.2 i x hi).2.2.1;unfold Xm NA at hm;rw[if_neg (by omega)] at hm;have:=Int.mul_tdiv_cancel' (Int.dvd_of_tmod_eq_zero (bjE hm));rw[Int.mul_comm];exact this⟩)]
   rfl
 have hta:Qj en .ta (⟨1,IE,0⟩::⟨6,Ec,0⟩::K) ⟨18,bE,bE,0,0,0,0,f,[a],0⟩ r:=Ix ⟨q0,key⟩;obtain⟨q4,h4⟩:=hta;exact jI (by decide) (by decide) (YE (by unfold RD;simp)) ⟨q4,λq hq=>h4 q hq⟩
end
def Stop(r:List Tk):Prop:=DS fX r=false/\∀k,∀x∈opsOf k,DS x r=false
def auK{k:Nat}(h:6<=k):opsOf k=[]:=by
 obtain⟨m,rfl⟩:∃m,k=m+6:=⟨k - 6,by omega⟩;rfl
def auH{p:ByteArray->Prop}(h0:∀x∈opsOf 0,p x)(h1:∀x∈opsOf 1,p x)(h3:∀x∈opsOf 3,p x)(h4:∀x∈opsOf 4,p x)(h5:∀x∈opsOf 5,p x):∀k,∀x∈opsOf k,p x:=by
 intro k;rcases(show k=0\/k=1\/k=2\/k=3\/k=4\/k=5\/6<=k by omega) with rfl | rfl | rfl | rfl | rfl | rfl | h
 exact h0;exact h1;intro x hx;cases hx;exact h3;exact h4;exact h5;rw[auK h];intro x hx;cases hx
def awL:Stop []:=⟨rfl,λ_ _ _=>rfl⟩
def Xg{r:List Tk}(h:Cm r):Stop r:=by
 obtain⟨t,u,rfl,h⟩:=h;have go:∀x:ByteArray,DS x (t::u)=BD t.text.data.toList x.data.toList:=λ_=>rfl;refine⟨?_,?_⟩;rw[go];rcases h with rfl | rfl | rfl<;>rfl
 simp only[go];rcases h with rfl | rfl | rfl<;>exact auH (by decide) (by decide) (by decide) (by decide) (by decide)
section
variable {en:Int} {r:List Tk}
def Vy{l:List Tk}{n:Nd}(h:Qj en .at_ l n r)(hr:Stop r)(hn:DS LB l=false):Qj en .ex l n r :=
 aeZ (ZH 6 0 (by omega) (fU h) (λk _ _=>hr.2 k) λ_ _=>hn)
def PR{n:Nd}{k z:Int}{nm un:ByteArray}{t:Fn}(hk:n.kind=k)(hb:EZ n ⟨0,nm,un,z,0,0,0,t,[],0⟩):DO n=⟨k,nm,un,z,0,0,0,t,n.kids.map DO,0⟩:=by
 obtain⟨b1,b2,b3,b4,b5,b6,b7,b8⟩:=vG.1 hb;rw[Gp,hk,b1,b2,b3,b4,b5,b6]
 have:n.BK=t:=by
   cases h:n.BK with
   | mk d p=>rw[h] at b7 b8;cases t;simp only at b7 b8;rw[b7,b8]
 rw[this]
def aMX{l:List Tk}{a c:Nd}{z:Int}(hz:1<=z/\z<=1000000)(h1:Qj en (.lv 6) l a (⟨6,BI,0⟩::⟨3,⟨(Lf z).toArray⟩,0⟩::r))(hb:AY BI a (C6 11 bE Cp z [] 0)=some c)(hr:∀x∈opsOf 5,DS x r=false):Qj en (.lv 5) l c r:=by
 obtain⟨q1,h1⟩:=h1;refine Ix ⟨q1,λq hq=>?_⟩;have h1:=h1 q (by omega);show LV en (gP en q).1 5 l=_;unfold LV;show(BZ ((gP en q).1 (.lv 6)) _) l=_;unfold BZ;rw[h1];dsimp only;rw[JN,bV (t:=⟨6,BI,0⟩) (by unfold opsOf;simp)]
 have aPY:PJ en ((gP en q).1 (.lv 6)) BI a (⟨3,⟨(Lf z).toArray⟩,0⟩::r)=some (.inl c,r):=by
   unfold PJ;rw[EJ,nE rfl,cond_true]
   have:DA en (⟨3,⟨(Lf z).toArray⟩,0⟩::r)=some (.inl (C6 11 bE Cp z [] 0),r):=by
     unfold DA;rw[BW (ZL (by omega))];rfl
   rw[BW this];unfold IN;rw[hb];rfl
 unfold BZ;dsimp only;rw[aPY];dsimp only;rw[Yy,JN,gD hr];rfl
def aYZ{op:ByteArray}(h:bU op)(hd:op≠BI):(∃j,(j=0\/j=1\/j=3\/j=4\/j=5)/\op∈opsOf j/\∀k,j < k->∀x∈opsOf k,BD op.data.toList x.data.toList=false)/\∀a b,AY op a b=some ⟨16,op,bE,0,0,0,0,⟨0,[]⟩,[a,b],a.Bc⟩:=by
 have go:∀{op:ByteArray} {j:Nat},((∀x∈opsOf 1,1<=j\/BD op.data.toList x.data.toList=false)/\(∀x∈opsOf 3,3<=j\/BD op.data.toList x.data.toList=false)/\(∀x∈opsOf 4,4<=j\/BD op.data.toList x.data.toList=false)/\∀x∈opsOf 5,5<=j\/BD op.data.toList x.data.toList=false)->∀k,j < k->∀x∈opsOf k,BD op.data.toList x.data.toList=false:=by
   intro op j ⟨h1,h3,h4,h5⟩ k hk x hx;rcases(show k=0\/k=1\/k=2\/k=3\/k=4\/k=5\/6<=k by omega) with rfl | rfl | rfl | rfl | rfl | rfl | h
   omega;exact(h1 x hx).resolve_left (by omega);cases hx;exact(h3 x hx).resolve_left (by omega);exact(h4 x hx).resolve_left (by omega);exact(h5 x hx).resolve_left (by omega);rw[auK h] at hx;cases hx
 rcases h with h | h | h | h | h | h | h | h | h | h | h
 exact absurd h hd
 all_goals subst h
 exact⟨⟨0,by omega,by unfold opsOf;simp,go (by decide)⟩,λ_ _=>rfl⟩;exact⟨⟨1,by omega,by unfold opsOf;simp,go (by decide)⟩,λ_ _=>rfl⟩;exact⟨⟨3,by omega,by unfold opsOf;simp,go (by decide)⟩,λ_ _=>rfl⟩;exact⟨⟨3,by omega,by unfold opsOf;simp,go (by decide)⟩,λ_ _=>rfl⟩;exact⟨⟨3,by omega,by unfold opsOf;simp,go (by decide)⟩,λ_ _=>rfl⟩;exact⟨⟨3,by omega,by unfold opsOf;simp,go (by decide)⟩,λ_ _=>rfl⟩;exact⟨⟨4,by omega,by unfold opsOf;simp,go (by decide)⟩,λ_ _=>rfl⟩;exact⟨⟨4,by omega,by unfold opsOf;simp,go (by decide)⟩,λ_ _=>rfl⟩;exact⟨⟨5,by omega,by unfold opsOf;simp,go (by decide)⟩,λ_ _=>rfl⟩;exact⟨⟨5,by omega,by unfold opsOf;simp,go (by decide)⟩,λ_ _=>rfl⟩
def aRG{l:List UInt8}(h:∃c∈l,c≠110/\c≠111/\c≠116):(⟨l.toArray⟩:ByteArray)≠LB:=by
 intro e;obtain⟨c,hc,h1,h2,h3⟩:=h;have e1:=congrArg (λs:ByteArray=>s.data.toList) e
 have e2:l=[110,111,116]:=by
   dsimp only at e1;rw[Md] at e1;exact e1
 rw[e2] at hc;simp only[biX,List.not_mem_nil,or_false] at hc;rcases hc with h | h | h
 exact h1 h;exact h2 h;exact h3 h
def afQ(z:Int):(⟨(Lf z).toArray⟩:ByteArray)≠LB:=by
 refine aRG ?_;cases h:Lf z with
 | nil=>exact absurd h (asC z)
 | cons c l =>
   have:=(Xk z.toNat c (by rw[show P6 z.toNat=c::l from h];simp)).1;refine⟨c,by simp,?_,?_,?_⟩<;>rintro rfl<;>exact absurd this.2 (by decide)
def aQY{n:Nd}(hu:Kw n.unit)(hn:0<=n.n/\n.n<=999999999999)(ht:n.unit=E8->n.n<=1)(hr:Stop r):Qj en .ex (tk (rF n)++r) (C6 11 bE n.unit n.n [] 0) r:=by
 unfold rF;by_cases u1:n.unit=Cp;rw[if_pos u1,u1];exact Vy (aRM hn hr.1) hr (by show DS LB ((⟨3,⟨(Lf n.n).toArray⟩,0⟩:Tk)::r)=false;rw[Rh,LA (afQ _)]);rw[if_neg u1];by_cases u2:n.unit=Dz;rw[if_pos u2,u2];exact Vy (aRD hn) hr (by show DS LB ((⟨3,⟨(Lf n.n).toArray⟩,0⟩:Tk)::_)=false;rw[Rh,LA (afQ _)]);rw[if_neg u2];by_cases u3:n.unit=E8;rw[if_pos u3,u3];refine Vy (axM ⟨hn.1,ht u3⟩) hr ?_;by_cases h1:n.n=1;rw[if_pos h1];rfl;rw[if_neg h1];rfl;rw[if_neg u3]
 have hc:dO n.unit:=by
   rcases hu with h | h | h | h
   exact absurd h u3;exact absurd h u1;exact absurd h u2;exact h
 refine Vy (aMU hn n.unit) hr ?_;show DS LB ((⟨2,n.unit,0⟩:Tk)::_)=false;rw[Rh,LA];rintro e;dsimp only at e;rw[e] at hc;exact absurd (hc.2 110 (by decide)) (by decide)
def aKF:∀(m:Nat) (n:Nd),Cr n<=m->OQ n->Cr n<=300->∀r,Stop r->Qj en .ex (tk (tF n)++r) (DO n) r:=by
 intro m
 induction m with
 | zero=>intro n h;have:=Cu n;omega
 | succ m ih =>
 intro n hm hx h3 r hr;have hsz:=Cu n;obtain⟨hQ,Tj⟩:=(MF n).1 hx
 have hk:∀k∈n.kids,∀r,Stop r->Qj en .ex (tk (tF k)++r) (DO k) r:=λk hk=>by
   have:=JE hk;exact ih k (by omega) (Tj k hk) (by omega)
 have s41:∀{v:List Tk},Stop (⟨6,CX,0⟩::v):=Xg ⟨_,_,rfl,.inr (.inl rfl)⟩;have s59:∀{v:List Tk},Stop (⟨6,CV,0⟩::v):=Xg ⟨_,_,rfl,.inr (.inr rfl)⟩;rw[ahY];unfold mA;by_cases jY:n.kind=11;rw[if_pos jY];obtain⟨a,b,c,d,e,f⟩:=(aaY jY).1 hQ;rw[PR jY f,biP e];exact aQY a ⟨b,c⟩ d hr;rw[if_neg jY];by_cases mU:n.kind=12;rw[if_pos (.inl mU)];obtain⟨a,e,f⟩:=(apN mU).1 hQ;rw[PR mU f,biP e];refine Vy (aBX a) hr ?_;show DS LB ((⟨1,n.name,0⟩:Tk)::_)=false;rw[Rh,LA];intro e';refine a.2.2.1 ?_;dsimp only at e';rw[e'];unfold RD;simp;by_cases k14:n.kind=14;rw[if_pos (.inr k14)];obtain⟨a,e,f⟩:=(apP k14).1 hQ;rw[PR k14 f,biP e];refine Vy (aVU a) hr ?_;rcases a with h | h | h | h<;>rw[h]<;>rfl
 rw[if_neg (by omega)];by_cases jZ:n.kind=13;rw[if_pos jZ];obtain⟨a,e,f⟩:=(apO jZ).1 hQ;rw[PR jZ f,biP e];exact Vy (aMD a) hr rfl;rw[if_neg jZ];by_cases kA:n.kind=15
 · rw[if_pos kA]
   obtain⟨hl,f⟩:=(apQ kA).1 hQ;rw[PR kA f];generalize n.kids=ks at *
   match ks,hl with
   | [x],_ =>
   rw[show([x].map tF).getD 0 []=tF x from rfl];have h1:=T9 (hk x (by simp) (⟨6,CX,0⟩::r) s41);have h2:Qj en (.lv 2) (⟨6,Ec,0⟩::(tk (tF x)++⟨6,CX,0⟩::r)) (DO x) r:=ZH 4 2 (by omega) (fU h1) (λk _ _=>hr.2 k) λ_ _=>rfl;have h4:=aRI (t:=⟨1,LB,0⟩) rfl rfl h2;have h5:=aeZ (ZH 2 0 (by omega) h4 (λk _ _=>hr.2 k) λ_ h=>by omega)
   have e:tk ([T1 1 (bL LB) [32],T1 6 [40] []]++tF x++[T1 6 [41] []])++r=⟨1,LB,0⟩::⟨6,Ec,0⟩::(tk (tF x)++⟨6,CX,0⟩::r):=by
     rw[EK,EK,atS,atS];rfl
   rw[e];exact h5
 rw[if_neg kA];by_cases kB:n.kind=16
 · rw[if_pos kB]
   obtain⟨f,hl,ho,hdv⟩:=(apR kB).1 hQ;rw[PR kB f];generalize n.kids=ks at *
   match ks,hl with
   | [x,y],_ =>
   rw[show([x,y].map tF).getD 0 []=tF x from rfl,show([x,y].map tF).getD 1 []=tF y from rfl];have ax:(DO x).Bc=0:=by rw[Gp]
   by_cases hd:n.name=BI;rw[if_pos hd,hd];have hy:=UQ.1 ⟨Tj y (by simp),hdv hd y rfl⟩;obtain⟨y1,⟨y2,⟨y3,y4,y5⟩,⟨y6,y7⟩,y8⟩,y9,Zl⟩:=hy
   have ey:DO y=C6 11 bE Cp y.n [] 0:=by
     rw[PR (n:=y) (k:=11) (nm:=bE) (un:=Cp) (z:=y.n) (t:=⟨0,[]⟩) y1 (vG.2 ⟨y2,y9,rfl,y3,y4,y5,y6,y7⟩),y8];rfl
   have ty:tF y=[T1 3 (Lf y.n) []]:=by rw[ahY];unfold mA rF;rw[if_pos y1,if_pos y9]
   have hbn:AY BI (DO x) (DO y)=some ⟨16,BI,bE,0,0,0,0,⟨0,[]⟩,[DO x,DO y],(DO x).Bc⟩:=rfl;rw[ax] at hbn;have h1:=fU (T9 (hk x (by simp) (⟨6,CX,0⟩::(⟨6,BI,0⟩::⟨3,⟨(Lf y.n).toArray⟩,0⟩::r)) s41));have h2:=aMX (c:=⟨16,BI,bE,0,0,0,0,⟨0,[]⟩,[DO x,DO y],0⟩) (z:=y.n) Zl h1 (by rw[<- ey];exact hbn) (hr.2 5);have h5:=aeZ (ZH 5 0 (by omega) h2 (λk _ _=>hr.2 k) λ_ _=>rfl)
   have e:tk ([T1 6 [40] []]++tF x++[T1 6 [41] [32],T1 6 [47] [32]]++tF y)++r=⟨6,Ec,0⟩::(tk (tF x)++⟨6,CX,0⟩::(⟨6,BI,0⟩::⟨3,⟨(Lf y.n).toArray⟩,0⟩::r)):=by
     rw[ty,EK,EK,EK,atS,atS,atS];rfl
   rw[e];exact h5;rw[if_neg hd];obtain⟨⟨j,hj,Zz,hhi⟩,bcK⟩:=aYZ ho hd;have h1:=fU (T9 (hk x (by simp) (⟨6,CX,0⟩::(⟨(opK n.name:Nat),n.name,0⟩::⟨6,Ec,0⟩::(tk (tF y)++⟨6,CX,0⟩::r))) s41));have h2:=fU (T9 (hk y (by simp) (⟨6,CX,0⟩::r) s41));have h1':Qj en (.lv (j+1)) (⟨6,Ec,0⟩::(tk (tF x)++⟨6,CX,0⟩::(⟨(opK n.name:Nat),n.name,0⟩::⟨6,Ec,0⟩::(tk (tF y)++⟨6,CX,0⟩::r)))) (DO x) (⟨(opK n.name:Nat),n.name,0⟩::⟨6,Ec,0⟩::(tk (tF y)++⟨6,CX,0⟩::r)):=ZH (5 - j) (j+1) (by omega) (by rw[show j+1+(5 - j)=6 by omega];exact h1) (λk h _ x hx=>hhi k (by omega) x hx) λ_ _=>rfl;have zX:=ZH (5 - j) (j+1) (by omega) (by rw[show j+1+(5 - j)=6 by omega];exact h2) (λk _ _=>hr.2 k) λ_ _=>rfl;have h4:=aYP hj h1' Zz hd zX (bcK _ _) (hr.2 j);have h5:=aeZ (ZH j 0 (by omega) (by rw[bcD];exact h4) (λk _ _=>hr.2 k) λ_ _=>rfl);rw[ax] at h5
   have e:tk ([T1 6 [40] []]++tF x++[T1 6 [41] [32],T1 (opK n.name) (bL n.name) [32],T1 6 [40] []]++tF y++[T1 6 [41] []])++r=⟨6,Ec,0⟩::(tk (tF x)++⟨6,CX,0⟩::(⟨(opK n.name:Nat),n.name,0⟩::⟨6,Ec,0⟩::(tk (tF y)++⟨6,CX,0⟩::r))):=by
     rw[EK,EK,EK,EK,atS,atS,atS,atS];rfl
   rw[e];exact h5
 rw[if_neg kB];by_cases kC:n.kind=18
 · rw[if_pos kC]
   obtain⟨f,ht,hl⟩:=(apT kC).1 hQ;rw[PR kC f];generalize n.kids=ks at *
   match ks,hl with
   | [x],_ =>
   rw[show([x].map tF).getD 0 []=tF x from rfl];have h1:=hk x (by simp) (⟨6,CV,0⟩::(tk (iS n.BK)++⟨6,CX,0⟩::r)) s59;have h2:=Vy (axG ht h1) hr rfl
   have e:tk ([T1 1 (bL IE) [],T1 6 [40] []]++tF x++[T1 6 [59] [32]]++iS n.BK++[T1 6 [41] []])++r=⟨1,IE,0⟩::⟨6,Ec,0⟩::(tk (tF x)++⟨6,CV,0⟩::(tk (iS n.BK)++⟨6,CX,0⟩::r)):=by
     rw[EK,EK,EK,EK,atS,atS,atS,atS];rfl
   rw[e];exact h2
 rw[if_neg kC];have k17:n.kind=17:=by have:=Xp hQ;omega
 obtain⟨hnm,f,hl⟩:=(apS k17).1 hQ;have bI:=Ja n.kids;rw[PR k17 f];generalize n.kids=ks at *
 match ks,hl with
 | a::b::l,_ =>
 have h1:=azF (en:=en) (f:=λk=>tk (tF k)) (v:=DO) (r:=r) hnm (a:=a) (b:=b) (l:=l) (by simp only[Yy] at bI;omega) λk jW s hs=>hk k jW s (Xg hs);have h2:=Vy h1 hr (by rcases hnm with h | h<;>rw[h]<;>rfl)
 have e:tk ([T1 1 (bL n.name) [],T1 6 [40] []]++OJ ((a::b::l).map tF)++[T1 6 [41] []])++r=⟨1,n.name,0⟩::⟨6,Ec,0⟩::(tk (tF a)++(((b::l).flatMap λk=>(⟨6,G3,0⟩:Tk)::tk (tF k))++⟨6,CX,0⟩::r)):=by
   rw[EK,EK,iT,atS,atS,atS];rfl
 rw[e];exact h2
end
def oQ:Nat->List Ti->List Ti
 | 0,l=>l
 | m+1,l=>T1 6 [40] []::(oQ m l++[T1 6 [41] []])
def aKL{l:List Ti}(h:∀u,En u->Yj u l/\Hd1 l):∀(m:Nat) (u:List UInt8),En u->Yj u (oQ m l)/\Hd1 (oQ m l)
 | 0,u,hu=>h u hu
 | m+1,u,hu=>by
   obtain⟨h1,h2⟩:=aKL h m (Al [T1 6 [41] []]++u) (kI (.inr (.inl rfl)));rw[oQ];refine⟨Ii (Fk (by decide)) (λe=>absurd rfl e) (λ_=>?_) (CN h1 (Ii (Fk (by decide)) (λe=>absurd rfl e) (λ_=>hu.2) trivial)),_,_,rfl,Fk (by decide),.inr rfl⟩;rw[AB,atS];exact eE h2 _
def aKM{en:Int}{l:List Ti}{n:Nd}(h:∀r,Stop r->Qj en .ex (tk l++r) n r):∀(m:Nat) (r:List Tk),Stop r->Qj en .ex (tk (oQ m l)++r) n r
 | 0,r,hr=>h r hr
 | m+1,r,hr=>by
   have h1:=T9 (aKM h m (⟨6,CX,0⟩::r) (Xg ⟨_,_,rfl,.inr (.inl rfl)⟩))
   have e:tk (oQ (m+1) l)++r=⟨6,Ec,0⟩::(tk (oQ m l)++⟨6,CX,0⟩::r):=by
     rw[oQ];show((⟨6,Ec,0⟩:Tk)::tk (oQ m l++[T1 6 [41] []]))++r=_;rw[EK,bcE,atS];rfl
   rw[e];exact Vy h1 hr rfl
def azV{ps:List Ti}{n:Nd}{s:ByteArray}(MG:Yj [] ps)(hrd:∀en,Qj en .ex (tk ps) (DO n) [])(hs:bL s=Al ps)(hz:Cr n<=2000/\Mq n<=40)(jX:Vd n)(he:Q3 s=0) :
   ∃t,BG s=some (t,[])/\DO t=DO n/\Cr t=Cr n/\Vd t:=by
 have htk:=aKI (rN _ MG) hs he;obtain⟨r,l,p1,p2⟩:=agY he
 have f:F2 (λ_ _=>True) (tk ps) (FR s):=by
   rw[htk];have:=jH (S:=λ_ _=>True) (λ_ _=>trivial) ps 0;rw[bmQ] at this;exact this
 obtain⟨q0,h0⟩:=hrd 0;have hr:=(rY (S:=λ_ _=>True) (en:=0) (en':=((s.data.toList.length:Nat):Int)) (w:=[]) q0 (10*(FR s).length+11)).rg .ex f (h0 q0 (aOC _)) (by rw[bcB];exact p1);rcases hr with ⟨s1,e1,e2,e3⟩ | ⟨e,_⟩
 rotate_left;exact absurd rfl e;rw[bcB] at e1;subst e1;cases e2;cases r with
 | inr d=>cases e3
 | inl t =>
   have hn:NR (λ_ _=>True) (DO n) t:=by cases e3;assumption
   obtain⟨a1,a2,a3⟩:=aJM hn;rw[(X6 n).1] at a1;rw[(X6 n).2] at a2;rw[aKB] at a3;refine⟨t,?_,a3.symm,a1.symm,aJS t (by rw[<- a3];exact xH n jX)⟩;rw[p2];show some (akR t)=_;unfold akR;rw[if_neg (by omega)]
def aiT{more:Int}{k:Nat}(hk:NA (w64 more) 4=(k:Int))(h4:k<=3):∀(d t:Nat) (s:ByteArray) (l:List Ti),t+d=k->bL s=Al l->(bL s).length<=10000000+t*2 ->
   ∃s',DP (λx=>B4 more x.1 x.2) (d+1) (s,(t:Int))=some (.inl s')/\bL s'=Al (oQ d l)
 | 0,t,s,l,ht,hs,_=>by
   refine⟨s,?_,hs⟩;rw[DP];dsimp only;unfold B4;rw[hk,DQ (by omega),cond_false];rfl
 | d+1,t,s,l,ht,hs,hl=>by
   have hb:bL ((Ec++s)++CX)=Al (oQ 1 l):=by
     show((Ec++s)++CX).data.toList=_;rw[Ae,Ae,show s.data.toList=bL s from rfl,hs,N4,OR,oQ,oQ,Al,AB];simp[Al]
   have hlen:s.data.toList.length<=10000000+t*2:=hl
   obtain⟨s',h1,h2⟩:=aiT hk h4 d (t+1) ((Ec++s)++CX) (oQ 1 l) (by omega) hb (by
     show((Ec++s)++CX).data.toList.length<=_;rw[Ae,Ae,N4,OR];simp only[V5,Yy,aOD];omega)
   refine⟨s',?_,?_⟩;rw[DP];dsimp only
   have e:B4 more s (t:Int)=some (.nx (((Ec++s)++CX),((t+1:Nat):Int))):=by
     unfold B4;rw[hk,G4 (by omega),cond_true,B0 (by rw[N4];simp only[Yy,aOD];omega),B0 (by rw[Ae,N4,OR];simp only[V5,Yy,aOD];omega)];have:Bh (t:Int) 1=((t+1:Nat):Int):=by rw[Ca (by omega)];omega
     rw[this]
   rw[e];exact h1;rw[h2]
   have:∀(a b:Nat) (l:List Ti),oQ a (oQ b l)=oQ (a+b) l:=by
     intro a
     induction a with
     | zero=>intro b l;rw[oQ,bcD]
     | succ a ih=>intro b l;rw[oQ,ih,show a+1+b=(a+b)+1 by omega,oQ]
   rw[this]
def aRE{more:Int}(h:0<=more/\more<=255):∃k:Nat,NA (w64 more) 4=(k:Int)/\k<=3:=by
 have e:w64 more=more:=by
   unfold w64;exact IntWalk.i64_in _ (by omega)
 obtain⟨m,rfl⟩:=Int.eq_ofNat_of_zero_le h.1;refine⟨m % 4,?_,by omega⟩;rw[e];unfold NA;exact(Int.ofNat_tmod m 4).symm
def aQT(n:Nd)(more:Int)(hm:0<=more/\more<=255)(hx:OQ n)(h3:Cr n<=300)(hd:Mq n<=40) :
   ((Ge n).bind λZl=>(JI (λx=>B4 more x.1 x.2) (Zl,0)).bind (H8 (λ(nU:ByteArray)=>(BG nU).bind λ(WW,SQ)=>cond true ((GF nU).bind λsV=>cond sV (cond (Bi ((SQ.length:Nat):Int) 0) ((GI WW).bind λZQ=>(Gt n).bind λy17=>(Hm ZQ y17).bind λlU=>some lU) (some false)) (some true)) (some false)) (λv=>some v)))=some true:=by
 obtain⟨s,a1,a2,a3⟩:=abE hx h3;obtain⟨k,hk,hk3⟩:=aRE hm;obtain⟨s',b1,b2⟩:=aiT hk hk3 k 0 s (tF n) (by omega) a2 (by omega);rw[a1,NF];have b1':JI (λx=>B4 more x.1 x.2) (s,0)=some (.inl s'):=EI b1;rw[b1',NF];dsimp only[H8];rw[jD];by_cases he:Q3 s'=0;rotate_left;rw[alC he,NF];dsimp only[cond];rw[NF,LA he]
 obtain⟨t,c1,c2,c3,c4⟩:=azV (n:=n) (aKL (λu hu=>axE (Cr n) n (aOC _) hx u hu) k [] apG).1 (λen=>by
   have:=aKM (en:=en) (λr hr=>aKF (en:=en) (Cr n) n (aOC _) hx h3 r hr) k [] awL;rw[bcB] at this;exact this) b2 ⟨by omega,hd⟩ (pX n hx (by omega)).2 he
 rw[c1,NF];dsimp only[cond];rw[NF,nE he];dsimp only;rw[Ie (by simp)];dsimp only;rw[xI (by omega) c4,NF,iF (by omega),NF,c2,adH (by rw[<- c2];have:=(X6 t).1;omega) (by rw[<- c2];exact xH _ c4)];rfl
def aoQ{c0 c1 c2 c3 c5 c6 c8 c9:UInt8}(h0:P4 c0)(h1:P4 c1)(h2:P4 c2)(h3:P4 c3)(h5:P4 c5)(h6:P4 c6)(h8:P4 c8)(h9:P4 c9){z e:Int}(hz:Ic ((((0*10+((c0.toNat:Int) - 48))*10+((c1.toNat:Int) - 48))*10+((c2.toNat:Int) - 48))*10+((c3.toNat:Int) - 48)) ((0*10+((c5.toNat:Int) - 48))*10+((c6.toNat:Int) - 48)) ((0*10+((c8.toNat:Int) - 48))*10+((c9.toNat:Int) - 48))=some (z,e)) :
   Db ⟨([c0,c1,c2,c3,45,c5,c6,45,c8,c9]:List UInt8).toArray⟩=some (z,e):=by
 have b0:=h0;have b1:=h1;have b2:=h2;have b3:=h3;have b5:=h5;have b6:=h6;have b8:=h8;have b9:=h9;unfold P4 at b0 b1 b2 b3 b5 b6 b8 b9;unfold Db;rw[Ie (by rfl)];dsimp only[cond]
 have key:Bs (λi y x=>BX i y x.1 x.2.1 x.2.2.1 x.2.2.2) (λx:Int×Int×Int×Int=>(x.2.1,x.2.2.1,x.2.2.2)) [c0,c1,c2,c3,45,c5,c6,45,c8,c9] 0 (0,0,0,0)=some (.inl ((((0*10+((c0.toNat:Int) - 48))*10+((c1.toNat:Int) - 48))*10+((c2.toNat:Int) - 48))*10+((c3.toNat:Int) - 48),(0*10+((c5.toNat:Int) - 48))*10+((c6.toNat:Int) - 48),(0*10+((c8.toNat:Int) - 48))*10+((c9.toNat:Int) - 48))):=by
   show clF [c0,c1,c2,c3,45,c5,c6,45,c8,c9] 0 (0,0,0,0)=_;rw[fo0 (by decide) (by decide) h0 (by omega)];rw[fo0 (by decide) (by decide) h1 (by omega)];rw[fo0 (by decide) (by decide) h2 (by omega)];rw[fo0 (by decide) (by decide) h3 (by omega)];rw[fo4];rw[fo1 (by decide) (by decide) h5 (by omega)];rw[fo1 (by decide) (by decide) h6 (by omega)];rw[fo7];rw[fo2 (by decide) (by decide) h8 (by omega)];rw[fo2 (by decide) (by decide) h9 (by omega)];rfl
 have hl:Cs ([c0,c1,c2,c3,45,c5,c6,45,c8,c9]:List UInt8).length=λy:Option ((Int×Int×Int)⊕(Int×Int))=>y:=funext λy=>if_pos (by simp);simp only[List.toList_toArray,bjJ];rw[hl,key];dsimp only[Option.bind,H8];rw[hz]
def aVI(k:Nat):Bool:=match D1 (2000+((k / 12:Nat):Int)) ((k % 12:Nat):Int),Da ((k:Nat):Int),L8 (2000+((k / 12:Nat):Int)) (((k % 12:Nat):Int)+1) with
 | some n,some f,some n'=>Bi n n'&&(LS 28 n&&(LS n 31&&(LS 0 f&&((cond (bmR 1199 k) (Bi (f+n) 36525) (match Da (((k+1:Nat)):Int) with | some g=>Bi g (f+n) | none=>false))&&cond (bjO k 0) (Bi f 0) true))))
 | _,_,_=>false
def anY:((bjR 1200).all aVI)=true:=by kernel_rfl
def anZ{k:Nat}(hk:k < 1200):∃n f:Int,D1 (2000+((k / 12:Nat):Int)) ((k % 12:Nat):Int)=some n/\Da ((k:Nat):Int)=some f/\L8 (2000+((k / 12:Nat):Int)) (((k % 12:Nat):Int)+1)=some n /\
   (28<=n/\n<=31)/\0<=f/\(k+1 < 1200->Da (((k+1:Nat)):Int)=some (f+n))/\(k+1=1200->f+n=36525)/\(k=0->f=0):=by
 have h:=bkN.1 anY k (blD.2 hk);unfold aVI at h;split at h;rotate_left;cases h;rename_i n f n' h1 h2 h3;simp only[bcA] at h;obtain⟨a1,a2,a3,a4,a5,a6⟩:=h;rw[BY,BP] at a1;rw[G6,BP] at a2 a3 a4;subst a1;refine⟨n,f,h1,h2,h3,⟨a2,a3⟩,a4,λh=>?_,λh=>?_,λh=>?_⟩
 have:bmR 1199 k=false:=by
   cases hb:bmR 1199 k with
   | false=>rfl
   | true=>have:=Nat.le_of_ble_eq_true hb;omega
 rw[this,cond_false] at a5;split at a5;rename_i g hg;rw[BY,BP] at a5;rw[hg,a5];cases a5;have:bmR 1199 k=true:=Nat.ble_eq_true_of_le (by omega);rw[this,cond_true,BY,BP] at a5;exact a5;subst h;rw[show bjO 0 0=true from rfl,cond_true,BY,BP] at a6;exact a6
def uY(day:Int)(hd:day<=36524):∀(d k:Nat) (f:Int),k+d=1200->0 < d->Da ((k:Nat):Int)=some f->f<=day ->
   ∃(j:Nat) (n g r:Int),j < 1200/\DP (λx=>HU x.1 x.2.1 x.2.2) d (day - f,2000+((k / 12:Nat):Int),((k % 12:Nat):Int)+1)=some (.inl (r,2000+((j / 12:Nat):Int),((j % 12:Nat):Int)+1)) /\
     D1 (2000+((j / 12:Nat):Int)) ((j % 12:Nat):Int)=some n/\Da ((j:Nat):Int)=some g/\0<=r/\r < n/\n<=31/\g+r=day
 | 0,_,_,_,h0,_,_=>by omega
 | d+1,k,f,hk,_,hf,hfd=>by
   obtain⟨n,f',h1,h2,h3,h4,h5,h6,h7,h8⟩:=anZ (k:=k) (by omega);rw[hf] at h2;cases h2;by_cases hlt:n<=day - f
   have hk1:k+1 < 1200:=by
     by_cases h:k+1=1200;have:=h7 h;omega;omega
   obtain⟨j,n',g,r,a1,a2,a3⟩:=uY day hd d (k+1) (f+n) (by omega) (by omega) (h6 hk1) (by omega);refine⟨j,n',g,r,a1,?_,a3⟩;rw[DP];dsimp only
   have e:HU (day - f) (2000+((k / 12:Nat):Int)) (((k % 12:Nat):Int)+1)=some (.nx (day - (f+n),2000+(((k+1) / 12:Nat):Int),(((k+1) % 12:Nat):Int)+1)):=by
     unfold HU;rw[h3,NF,G6,nE hlt,cond_true,Ca (by omega),FH (by omega)];by_cases h12:k % 12=11;rw[G4 (by omega),cond_true,Ca (by omega)];rw[show(k+1) / 12=k / 12+1 by omega,show(k+1) % 12=0 by omega];exact congrArg (λx=>some (Lp.nx x)) (Prod.ext (by dsimp only;omega) (Prod.ext (by first | rfl | (dsimp only;omega)) (by first | rfl | (dsimp only;omega))))
     rw[DQ (by omega),cond_false];rw[show(k+1) / 12=k / 12 by omega,show(k+1) % 12=k % 12+1 by omega];exact congrArg (λx=>some (Lp.nx x)) (Prod.ext (by dsimp only;omega) (Prod.ext (by first | rfl | (dsimp only;omega)) (by first | rfl | (dsimp only;omega))))
   rw[e];exact a2;refine⟨k,n,f,day - f,by omega,?_,h1,hf,by omega,by omega,h4.2,by omega⟩;rw[DP];dsimp only;unfold HU;rw[h3,NF,G6,LA hlt,cond_false];rfl
def aFO:((bjR 100).all λi=>decide ((aTG [(w8 (Bh 48 (Ux ((i:Nat):Int) 10))),(w8 (Bh 48 (NA ((i:Nat):Int) 10)))]).data.toList=[S1 (i / 10),S1 (i % 10)]))=true:=by kernel_rfl
def sR{i:Nat}(h:i < 100):IV ((i:Nat):Int)=some ⟨[S1 (i / 10),S1 (i % 10)].toArray⟩:=by
 have:=of_decide_eq_true (bkN.1 aFO i (blD.2 h));rw[IV];congr 1;apply ByteArray.ext;apply bjQ;exact this
def azP{i:Nat}(h:i < 10):((S1 i).toNat:Int)=48+i:=by
 have:∀i:Fin 10,(S1 i.1).toNat=48+i.1:=by decide
 have:=this ⟨i,h⟩;dsimp only at this;omega
def aVP(y m d:Nat):List UInt8:=[S1 2,S1 0,S1 (y / 10),S1 (y % 10),45,S1 (m / 10),S1 (m % 10),45,S1 (d / 10),S1 (d % 10)]
def aVQ{day:Int}(h:0<=day/\day<=36524):∃w,EV day=some ⟨w.toArray⟩/\IH (5,w,0)/\Db ⟨w.toArray⟩=some (day,0)/\w.length=10:=by
 obtain⟨n0,f0,b1,b2,b3,b4,b5,b6,b7,b8⟩:=anZ (k:=0) (by omega);obtain rfl:=b8 rfl;obtain⟨j,n,g,r,a1,a2,a3,a4,a5,a6,a7,a8⟩:=uY day h.2 1200 0 0 (by omega) (by omega) b2 h.1
 have hD:OA day=some (2000+((j / 12:Nat):Int),((j % 12:Nat):Int)+1,Bh r 1):=by
   rw[OA,DQ (by omega),cond_false,DQ (by omega),cond_false];have e:JI (λx=>HU x.1 x.2.1 x.2.2) (day,2000,1)=some (.inl (r,2000+((j / 12:Nat):Int),((j % 12:Nat):Int)+1)):=EI (by rw[Int.sub_zero] at a2;exact a2);rw[e];rfl
 rw[Ca (by omega)] at hD;obtain⟨m,hm⟩:∃m:Nat,r+1=(m:Int):=⟨(r+1).toNat,by omega⟩;have hy:j / 12 < 100:=by omega
 have hmo:j % 12+1 < 100:=by omega
 have hmd:m < 100:=by omega
 have eq1:Ux (2000+((j / 12:Nat):Int)) 100=((20:Nat):Int):=by
   rw[auU (by omega)];omega
 have eq2:NA (2000+((j / 12:Nat):Int)) 100=((j / 12:Nat):Int):=by
   rw[auZ (by omega)];omega
 have hT:EV day=some ⟨(aVP (j / 12) (j % 12+1) m).toArray⟩:=by
   rw[EV,hD,NF];dsimp only;rw[Kr (by omega),cond_false,eq1,eq2,hm,show((j % 12:Nat):Int)+1=((j % 12+1:Nat):Int) by omega,sR (i:=20) (by omega),sR hy,sR hmo,sR hmd];simp only[NF];have kd:(Fj).data.toList=[45]:=rfl;simp (disch:=((try simp only[Ae,V5,Yy,aOD,Md,kd]);omega)) only [B0]
   refine congrArg some (ByteArray.ext (bjQ ?_));simp only[Ae,Md,kd];rfl
 refine⟨_,hT,?_,?_,rfl⟩;refine .inr (.inr (.inr (.inr (.inl ⟨rfl,rfl,?_⟩))));rw[TL];refine⟨by simp[aVP],λi hi=>?_⟩;have c:=λ{i:Nat} (h:i < 10)=>(S2 h).2.2.1;rcases(show i=0\/i=1\/i=2\/i=3\/i=4\/i=5\/i=6\/i=7\/i=8\/i=9 by omega) with rfl | rfl | rfl | rfl | rfl | rfl | rfl | rfl | rfl | rfl
 exact c (i:=2) (by omega);exact c (i:=0) (by omega);exact c (i:=j / 12 / 10) (by omega);exact c (i:=j / 12 % 10) (by omega);rfl;exact c (i:=(j % 12+1) / 10) (by omega);exact c (i:=(j % 12+1) % 10) (by omega);rfl;exact c (i:=m / 10) (by omega);exact c (i:=m % 10) (by omega);have d:=λ{i:Nat} (h:i < 10)=>(S2 h).2.1;have v:=λ{i:Nat} (h:i < 10)=>azP h;refine aoQ (d (i:=2) (by omega)) (d (i:=0) (by omega)) (d (i:=j / 12 / 10) (by omega)) (d (i:=j / 12 % 10) (by omega)) (d (i:=(j % 12+1) / 10) (by omega)) (d (i:=(j % 12+1) % 10) (by omega)) (d (i:=m / 10) (by omega)) (d (i:=m % 10) (by omega)) ?_;rw[v (i:=2) (by omega),v (i:=0) (by omega),v (i:=j / 12 / 10) (by omega),v (i:=j / 12 % 10) (by omega),v (i:=(j % 12+1) / 10) (by omega),v (i:=(j % 12+1) % 10) (by omega),v (i:=m / 10) (by omega),v (i:=m % 10) (by omega)];have e1:(((0*10+((48+((2:Nat):Int)) - 48))*10+((48+((0:Nat):Int)) - 48))*10+((48+((j / 12 / 10:Nat):Int)) - 48))*10+((48+((j / 12 % 10:Nat):Int)) - 48)=2000+((j / 12:Nat):Int):=by omega
 have e2:(0*10+((48+(((j % 12+1) / 10:Nat):Int)) - 48))*10+((48+(((j % 12+1) % 10:Nat):Int)) - 48)=((j % 12:Nat):Int)+1:=by omega
 have e3:(0*10+((48+((m / 10:Nat):Int)) - 48))*10+((48+((m % 10:Nat):Int)) - 48)=(m:Int):=by omega
 rw[e1,e2,e3];unfold Ic
 rw[DQ (by omega),cond_false,DQ (by omega),cond_false,DQ (by omega),cond_false,DQ (by omega),cond_false,DQ (by omega),cond_false,FH (a:=((j % 12:Nat):Int)+1) (by omega),show((j % 12:Nat):Int)+1 - 1=((j % 12:Nat):Int) by omega,a3,NF,DQ (by omega),cond_false,
   FH (a:=2000+((j / 12:Nat):Int)) (by omega),FG (by omega),Ca (by omega),FH (by omega),show(2000+((j / 12:Nat):Int) - 2000)*12+(((j % 12:Nat):Int)+1) - 1=(j:Int) by omega,a4,NF,Ca (by omega),FH (by omega)]
 congr 2;omega
def RX(u:ByteArray):Nat:=if u=E8\/u=Cp\/u=Dz then 1 else 2
def Mp(d:Int):List UInt8:=match EV d with
 | some s=>s.data.toList
 | none=>[]
def VY{d:Int}(h:0<=d/\d<=36524):EV d=some ⟨(Mp d).toArray⟩/\IH (5,Mp d,0)/\Db ⟨(Mp d).toArray⟩=some (d,0)/\(Mp d).length=10:=by
 obtain⟨w,h1,h2,h3,h4⟩:=aVQ h;have:Mp d=w:=by unfold Mp;rw[h1]
 rw[this];exact⟨h1,h2,h3,h4⟩
abbrev nuT(k:Nd):List Ti:=[T1 3 (Lf k.n) []]
def IP(c:Nd):List Ti :=
 if c.kind=6 then [T1 1 (bL Nx) [32]]++(c.kids.map tF).getD 0 []++[T1 6 [59] [32]]
 else if c.kind=8 then [T1 1 (bL GU) [32]]++(c.kids.map tF).getD 0 []++[T1 6 [59] [32]]
 else [T1 1 (bL Ho) [32]]++OJ (c.kids.map nuT)++[T1 6 [59] [32]]
def VJ(z:Int):ByteArray:=if z=1 then dW else if z=2 then R8 else if z=3 then V2 else fF
def eX(h:Nd):List Ti :=
 [T1 1 (bL Ml) [32],T1 3 (Lf h.n) [32],T1 1 (bL NY) [32],T1 5 (Mp h.fr) [32]]++(if h.to<=36524 then [T1 1 (bL toS) [32],T1 5 (Mp h.to) [32]] else [])++[T1 1 (bL IY) [32],T1 5 (Mp h.known) [32],T1 6 [123] [32]]
def anI(n h:Nd)(cs:List Nd)(g:List UInt8):List Ti :=
 [T1 1 (bL Dx) [32],T1 3 (Lf n.n) [32],T1 1 (bL V3) [32],T1 1 (bL n.name) [32]]++eX h++cs.flatMap IP++[T1 6 [125] g]
def Mk(n:Nd)(g:List UInt8):List Ti :=
 if n.kind=2 then [T1 1 (bL M6) [32],T1 1 (bL n.name) [32],T1 6 [58] [32],T1 (RX n.unit) (bL n.unit) [],T1 6 [59] g]
 else if n.kind=3 then [T1 1 (bL JU) [32],T1 1 (bL n.name) [32],T1 6 [58] [32],T1 (RX n.unit) (bL n.unit) [32],T1 1 (bL (VJ n.n)) [],T1 6 [59] g]
 else match n.kids with
   | []=>[]
   | h::cs=>anI n h cs g
def asM:(DK).data.toList=32::((Nx).data.toList++[32]):=rfl
def qX:(Ct).data.toList=32::((GU).data.toList++[32]):=rfl
def bO:(DJ).data.toList=32::((Ho).data.toList++[32]):=rfl
def asK:(I5).data.toList=(M6).data.toList++[32]:=rfl
def asL:(Gm).data.toList=(JU).data.toList++[32]:=rfl
def RC:(Bu).data.toList=(Dx).data.toList++[32]:=rfl
def akO:(CZ).data.toList=32::((V3).data.toList++[32]):=rfl
def mZ:(CU).data.toList=32::((Ml).data.toList++[32]):=rfl
def mY:(DI).data.toList=32::((NY).data.toList++[32]):=rfl
def kto:(Lh).data.toList=32::((toS).data.toList++[32]):=rfl
def YF:(Cn).data.toList=32::((IY).data.toList++[32]):=rfl
def mV:(PD).data.toList=[32,123]:=rfl
def asI:(PE).data.toList=[32,125]:=rfl
def k3b:(CV).data.toList=[59]:=rfl
def k0a:(xN).data.toList=[10]:=rfl
def aJK:(Nx).data.toList.length=4:=rfl
def afR:(GU).data.toList.length=6:=rfl
def rJ:(Ho).data.toList.length=6:=rfl
def aJG:(M6).data.toList.length=4:=rfl
def aJH:(JU).data.toList.length=4:=rfl
def Xz:(Dx).data.toList.length=7:=rfl
def aBO:(V3).data.toList.length=3:=rfl
def agG:(Ml).data.toList.length=4:=rfl
def afZ:(NY).data.toList.length=4:=rfl
def lto:(toS).data.toList.length=2:=rfl
def rG:(IY).data.toList.length=5:=rfl
def aMS(n:Nd){c:Nd}(hc:BO c)(hk:6<=c.kind/\c.kind<=8)(h3:Cr c<=300)(i:Nat)(s:ByteArray)(hs:(bL s).length<=100000000000) :
   ∃s',KH n i c s=some (.nx s')/\bL s'++[32]=bL s++[32]++Al (IP c)/\(bL s').length<=(bL s).length+5000*Cr c:=by
 have hs':s.data.toList.length<=100000000000:=hs;obtain⟨_,h7,hn7⟩:=hc;have hsz:=Cu c;unfold KH IP;simp only[BY,C4];by_cases k6:c.kind=6
 · rw[Ay k6,if_pos k6]
   obtain⟨hl,hx⟩:=hn7 (by omega);generalize c.kids=ks at *
   match ks,hl with
   | [x],_ =>
   rw[oC] at hsz;obtain⟨t,g1,g2,g3⟩:=abE (hx x (by simp)) (by omega);have g4:t.data.toList.length+2<=5000*Cr x:=g3;simp only[bjV,NF,g1];simp (disch:=((try simp only[Ae,V5,Yy,aOD,asM,aJK,k3b]);omega)) only [B0]
   refine⟨_,rfl,?_,?_⟩;rw[show([x].map tF).getD 0 []=tF x from rfl,AB,AB,<- g2];simp only[bL,Ae,asM,k3b,Al,atS,bcE,bcJ,bcB];simp only[bL,Ae,V5,Yy,aOD,asM,aJK,k3b];omega
 rw[AD k6,if_neg k6];by_cases k8:c.kind=8
 · rw[Ay k8,if_pos k8]
   obtain⟨hl,hx⟩:=hn7 (by omega);generalize c.kids=ks at *
   match ks,hl with
   | [x],_ =>
   rw[oC] at hsz;obtain⟨t,g1,g2,g3⟩:=abE (hx x (by simp)) (by omega);have g4:t.data.toList.length+2<=5000*Cr x:=g3;simp only[bjV,NF,g1];simp (disch:=((try simp only[Ae,V5,Yy,aOD,qX,afR,k3b]);omega)) only [B0]
   refine⟨_,rfl,?_,?_⟩;rw[show([x].map tF).getD 0 []=tF x from rfl,AB,AB,<- g2];simp only[bL,Ae,qX,k3b,Al,atS,bcE,bcJ,bcB];simp only[bL,Ae,V5,Yy,aOD,qX,afR,k3b];omega
 rw[AD k8,if_neg k8];obtain⟨hl,hx⟩:=h7 (by omega);have bI:=Ja c.kids
 have hn:∀k∈c.kids,0<=k.n/\k.n<=999999999999:=λk hk=>by
   have:1<=k.n/\k.n<=1000000:=(hx k hk).2.2.2;omega
 have hW:∀k∈c.kids,(Al (nuT k)).length<=12:=λk hk=>by
   have:=Kc (hn k hk);simp only[nuT,Al,bcB];exact this
 rw[B0 (by simp only[bO,rJ,V5,Yy,aOD];omega),B0 (by omega),bjJ]
 obtain⟨s1,e1,e2⟩:=X2 (ρ:=ByteArray) (f:=nuT) (body:=λi y x=>QZ n i y x) c.kids 0 (s++DJ) 12 (by
     simp only[bL,Ae,V5,bO,rJ,Yy,aOD];have:=hs';omega) hW (λk hk i s hs=>by
     have h1:=Kc (hn k hk);have hs':s.data.toList.length<=1000000000000:=hs;unfold QZ;simp only[IZ,C4,S5 (hn k hk),NF];by_cases h0:i=0
     · rw[if_pos h0,AD (by omega)]
       simp (disch:=((try simp only[Ae,V5,Yy,aOD,Md,D5]);omega)) only [B0]
       exact⟨_,rfl,by simp only[bL,Ae,Md,Al,bcB]⟩
     · rw[if_neg h0,Ay (by omega)]
       simp (disch:=((try simp only[Ae,V5,Yy,aOD,Md,D5]);omega)) only [B0]
       exact⟨_,rfl,by simp only[bL,Ae,Md,Al,D5,bcB,atS]⟩)
 rw[e1];rw[if_pos rfl] at e2;have hsl:=sH (f:=nuT) (W:=λ_=>14) c.kids λk hk=>by have:=hW k hk;omega
 rw[oB] at hsl
 have e3:s1.data.toList.length=s.data.toList.length+8+(Al (OJ (c.kids.map nuT))).length:=by
   have:=congrArg List.length e2;simp only[bL,Ae,V5,bO,rJ,Yy,aOD] at this;omega
 have hk2:c.kids.length*14<=300*14:=Nat.mul_le_mul_right _ (by omega);show ∃s',Cs (s1.data.toList.length+CV.data.toList.length) (some (Lp.nx (s1++CV)))=some (Lp.nx s')/\_;rw[B0 (by rw[k3b];simp only[Yy,aOD];omega)];refine⟨_,rfl,?_,?_⟩;rw[show bL (s1++CV)=bL s1++bL CV from Ae _ _,e2];simp only[bL,Ae,bO,k3b,Al,AB,atS,bcE,bcJ,bcB];simp only[bL,Ae,V5,k3b,Yy,aOD];omega
def mE(n:Nd):∀(cs:List Nd) (i:Nat) (s:ByteArray),(bL s).length+5000*D7 cs<=100000000->D7 cs<=299->(∀c∈cs,BO c/\6<=c.kind/\c.kind<=8) ->
   ∃s',Bs (ρ:=ByteArray) (λi y x=>KH n i y x) (λx=>x) cs i s=some (.inl s')/\bL s'++[32]=bL s++[32]++Al (cs.flatMap IP)/\(bL s').length<=(bL s).length+5000*D7 cs
 | [],i,s,_,_,_=>⟨s,rfl,by simp[Al],by simp⟩
 | c::cs,i,s,h,h3,hc=>by
   rw[D7] at h h3;obtain⟨s1,a1,a2,a3⟩:=aMS n (hc c (by simp)).1 (hc c (by simp)).2 (by omega) i s (by omega);obtain⟨s2,b1,b2,b3⟩:=mE n cs (i+1) s1 (by omega) (by omega) λx hx=>hc x (by simp[hx]);refine⟨s2,?_,?_,by rw[D7];omega⟩;rw[Bs,a1];exact b1;rw[b2,a2,bjZ,AB];simp only[atS]
def yU{u:ByteArray}(h:Kw u):u.data.toList.length<=16:=by
 rcases h with h | h | h | h
 rw[h];decide;rw[h];decide;rw[h];decide;have:=h.1;omega
def aSQ{z:Int}(h:1<=z/\z<=4):F9 [dW,R8,V2,fF] (Ka z 1)=some (VJ z)/\(VJ z).data.toList.length<=6:=by
 rw[FH (by omega)];rcases(show z=1\/z=2\/z=3\/z=4 by omega) with rfl | rfl | rfl | rfl<;>exact⟨rfl,by decide⟩
def aeK(n:Nd){cs:List Nd}{s:ByteArray}{l:List Ti}(hs:bL s++[32]=Al l)(hl:(bL s).length<=1000)(h3:D7 cs<=299)(hc:∀c∈cs,BO c/\6<=c.kind/\c.kind<=8)(He:cs.length<=1000)(g:List UInt8) :
   ∃s',((Cs cs.length (Bs (λi y x=>KH n i y x) (λx=>x) (cs.drop 0) 0 s)).bind (H8 (λ(nT:ByteArray)=>Cs (nT.data.toList.length+PE.data.toList.length) (some (nT++PE))) (λv=>some v)))=some s' /\
     bL s'++g=Al (l++cs.flatMap IP++[T1 6 [125] g])/\(bL s').length<=(bL s).length+5000*D7 cs+2:=by
 obtain⟨s1,h1,h2,h4⟩:=mE n cs 0 s (by omega) h3 hc;have h5:s1.data.toList.length<=(bL s).length+5000*D7 cs:=h4;rw[B0 (by omega),bjJ,h1];show ∃s',Cs (s1.data.toList.length+PE.data.toList.length) (some (s1++PE))=some s'/\_;rw[B0 (by rw[asI];simp only[Yy,aOD];omega)];refine⟨_,rfl,?_,?_⟩;rw[AB,AB,<- hs,<- h2];simp only[bL,Ae,asI,Al,atS,bcE,bcJ,bcB];have h6:s1.data.toList.length<=s.data.toList.length+5000*D7 cs:=h4;simp only[bL,Ae,V5,asI,Yy,aOD];omega
def aYB{n:Nd}(hi:GD n)(h3:Cr n<=300)(g:List UInt8):∃s,Om n=some s/\bL s++g=Al (Mk n g)/\(bL s).length<=5000*Cr n:=by
 have hsz:=Cu n;rw[Om];simp only[BY,C4];unfold Mk;by_cases k2:n.kind=2
 · rw[Ay k2,if_pos k2]
   obtain⟨a,b,_⟩:=(it2 k2).1 hi;have l1:=XG a;have l2:=yU b;simp (disch:=((try simp only[Ae,V5,Yy,aOD,asK,aJG,BF,k3b]);omega)) only [B0]
   refine⟨_,rfl,?_,?_⟩;simp only[bL,Ae,asK,BF,k3b,Al,atS,bcE,bcJ,bcB];simp only[bL,Ae,V5,Yy,aOD,asK,aJG,BF,k3b];omega
 rw[AD k2,if_neg k2];by_cases k3:n.kind=3
 · rw[Ay k3,if_pos k3]
   obtain⟨a,b,c,d,_⟩:=(it3 k3).1 hi;have l1:=XG a;have l2:=yU b;obtain⟨r1,r2⟩:=aSQ ⟨c,d⟩;rw[r1];simp only[NF];simp (disch:=((try simp only[Ae,V5,Yy,aOD,asL,aJH,BF,k3b,P9]);omega)) only [B0]
   refine⟨_,rfl,?_,?_⟩;simp only[bL,Ae,asL,BF,k3b,P9,Al,atS,bcE,bcJ,bcB];simp only[bL,Ae,V5,Yy,aOD,asL,aJH,BF,k3b,P9];omega
 rw[AD k3,if_neg k3];have k4:n.kind=4:=by have:=bM hi;omega
 obtain⟨hr,hnm,_,hd,cs,hk,hkd,_,_,hh,He⟩:=(it4 k4).1 hi;have hr:1<=n.n/\n.n<=1000000:=hr;obtain⟨_,hhn,hhk,hfr,hto,tJ,_⟩:=hh;have hfr:0<=hd.fr/\hd.fr<=36524:=hfr;have tJ:0<=hd.known/\hd.known<=36524:=tJ;rw[hk,D7] at hsz;have Gr:=Cu hd;have bI:=Ja cs;have l1:=XG hnm;obtain⟨f1,_,_,f4⟩:=VY hfr;obtain⟨n1,_,_,n4⟩:=VY tJ;have i1:=Kc (n:=n.n) (by omega);have i2:=Kc (n:=hd.n) (by omega);rw[hk]
 have Lc:Vm (hd::cs) 1 (((hd::cs).length:Nat):Int)=some cs:=by
   unfold Vm;rw[if_pos (by simp only[Yy];omega)];simp
 rw[Lc];simp only[bjV,NF,S5 (n:=n.n) (by omega),S5 (n:=hd.n) (by omega),f1,n1,G6,C4];unfold anI eX;have hcc:∀c∈cs,BO c/\6<=c.kind/\c.kind<=8:=λc hc=>⟨He c hc,(hkd c hc).1,(hkd c hc).2⟩;by_cases ht:hd.to<=36524
 · rw[Ay ht,if_pos ht]
   obtain⟨t1,_,_,t4⟩:=VY (d:=hd.to) (by omega);rw[t1];simp only[NF];generalize hS:(((((((((Bu++⟨(Lf n.n).toArray⟩)++CZ)++n.name)++CU)++⟨(Lf hd.n).toArray⟩)++DI)++⟨(Mp hd.fr).toArray⟩)++(Lh++⟨(Mp hd.to).toArray⟩))++((Cn++⟨(Mp hd.known).toArray⟩)++PD))=S at *
   have eS:bL S++[32]=Al ([T1 1 (bL Dx) [32],T1 3 (Lf n.n) [32],T1 1 (bL V3) [32],T1 1 (bL n.name) [32]]++([T1 1 (bL Ml) [32],T1 3 (Lf hd.n) [32],T1 1 (bL NY) [32],T1 5 (Mp hd.fr) [32]]++[T1 1 (bL toS) [32],T1 5 (Mp hd.to) [32]]++[T1 1 (bL IY) [32],T1 5 (Mp hd.known) [32],T1 6 [123] [32]])):=by
     rw[<- hS];simp only[bL,Ae,RC,akO,mZ,mY,kto,YF,mV,Md,Al,AB,atS,bcE,bcJ,bcB]
   have lS:(bL S).length<=200:=by
     rw[<- hS];simp only[bL,Ae,RC,akO,mZ,mY,kto,YF,mV,Md,V5,Yy,aOD,Xz,aBO,agG,afZ,lto,rG];omega
   obtain⟨s',e1,e2,e3⟩:=aeK n eS (by omega) (by omega) hcc (by omega) g;simp (disch:=((try simp only[Ae,V5,Yy,aOD,Md,RC,akO,mZ,mY,kto,YF,mV,Xz,aBO,agG,afZ,lto,rG]);omega)) only [B0 (n:=(_:Nat)+_)]
   exact⟨s',e1,e2,by omega⟩
 · rw[AD ht,if_neg ht]
   generalize hS:((((((((Bu++⟨(Lf n.n).toArray⟩)++CZ)++n.name)++CU)++⟨(Lf hd.n).toArray⟩)++DI)++⟨(Mp hd.fr).toArray⟩)++((Cn++⟨(Mp hd.known).toArray⟩)++PD))=S at *
   have eS:bL S++[32]=Al ([T1 1 (bL Dx) [32],T1 3 (Lf n.n) [32],T1 1 (bL V3) [32],T1 1 (bL n.name) [32]]++([T1 1 (bL Ml) [32],T1 3 (Lf hd.n) [32],T1 1 (bL NY) [32],T1 5 (Mp hd.fr) [32]]++[]++[T1 1 (bL IY) [32],T1 5 (Mp hd.known) [32],T1 6 [123] [32]])):=by
     rw[<- hS];simp only[bL,Ae,RC,akO,mZ,mY,YF,mV,Md,Al,AB,atS,bcE,bcJ,bcB]
   have lS:(bL S).length<=200:=by
     rw[<- hS];simp only[bL,Ae,RC,akO,mZ,mY,YF,mV,Md,V5,Yy,aOD,Xz,aBO,agG,afZ,rG];omega
   obtain⟨s',e1,e2,e3⟩:=aeK n eS (by omega) (by omega) hcc (by omega) g;simp (disch:=((try simp only[Ae,V5,Yy,aOD,Md,RC,akO,mZ,mY,YF,mV,Xz,aBO,agG,afZ,rG]);omega)) only [B0 (n:=(_:Nat)+_)]
   exact⟨s',e1,e2,by omega⟩
def vA:∀(l:List Nd) (i:Nat) (s:ByteArray),(∀k∈l,GD k)->D7 l<=300->(bL s).length+5001*D7 l<=100000000->∃s',Bs (ρ:=ByteArray) (λi y x=>MJ i y x) (λx=>x) l i s=some (.inl s')/\bL s'=bL s++Al (l.flatMap λk=>Mk k [10])
 | [],i,s,_,_,_=>⟨s,rfl,by simp[Al]⟩
 | k::l,i,s,hk,h3,hl=>by
   rw[D7] at h3 hl;have hz:=Cu k;obtain⟨t,a1,a2,a3⟩:=aYB (hk k (by simp)) (by omega) [10];have a4:t.data.toList.length<=5000*Cr k:=a3;have hs':s.data.toList.length+5001*(Cr k+D7 l)<=100000000:=hl
   have e:MJ i k s=some (.nx (s++(t++xN))):=by
     unfold MJ;rw[a1,NF,B0 (by rw[k0a];simp only[Yy,aOD];omega),B0 (by rw[Ae,k0a,V5];simp only[Yy,aOD];omega)]
   have e2:bL (s++(t++xN))=bL s++(bL t++[10]):=by simp only[bL,Ae,k0a]
   obtain⟨s',b1,b2⟩:=vA l (i+1) (s++(t++xN)) (λx hx=>hk x (by simp[hx])) (by omega) (by
     rw[e2];simp only[V5,Yy,aOD];omega)
   refine⟨s',?_,?_⟩;rw[Bs,e];exact b1;rw[b2,e2,a2,bjZ,AB,atS]
def aTJ{n:Nd}(hk:∀k∈n.kids,GD k)(h3:Cr n<=300):∃s,On n=some s/\bL s=Al (n.kids.flatMap λk=>Mk k [10]):=by
 have hz:=Cu n;have hl:=Ja n.kids
 obtain⟨s',b1,b2⟩:=vA n.kids 0 V4 hk (by omega) (by
   have:(bL V4).length=0:=rfl;omega)
 rw[On,B0 (by omega),bjJ,b1];exact⟨s',rfl,b2⟩
def SP{s:ByteArray}(h1:1<=(bL s).length)(h2:(bL s).length<=16)(h3:F7 2 (bL s)=true)(h4:∀c∈bL s,cin 26 c=true):IH (1,bL s,0):=.inl ⟨rfl,h1,h2,h3,h4⟩
def auE{u:List UInt8}{w:List UInt8}{r:List Ti}(h:w∈Fw)(hr:Yj u r):Yj u (T1 6 w [10]::r) :=
 ⟨Fk h,(by intro c hc;rw[bjB] at hc;subst hc;decide),λ_=>(kI (.inr (.inr (.inr (.inr rfl))))).1,λ_=>(kI (.inr (.inr (.inr (.inr rfl))))).2,hr⟩
def aiR{s:ByteArray}(h:Kw s):IH (RX s,bL s,0):=by
 unfold RX;by_cases hk:s=E8\/s=Cp\/s=Dz;rw[if_pos hk];rcases hk with rfl | rfl | rfl<;>exact SP (by decide) (by decide) (by decide) (by decide)
 rw[if_neg hk];rcases h with h | h | h | h
 exact absurd (.inl h) hk;exact absurd (.inr (.inl h)) hk;exact absurd (.inr (.inr h)) hk;exact adV h
def aFR(s:ByteArray):RX s≠6:=by unfold RX;split<;>decide
def aGU(z:Int):IH (1,bL (VJ z),0):=by
 unfold VJ;split;exact SP (by decide) (by decide) (by decide) (by decide);split;exact SP (by decide) (by decide) (by decide) (by decide);split;exact SP (by decide) (by decide) (by decide) (by decide);exact SP (by decide) (by decide) (by decide) (by decide)
def aWC{v:List UInt8}:Fr (59::v):=(kI (.inr (.inr (.inr (.inl rfl))))).1
def e59{v:List UInt8}:En (59::v):=kI (.inr (.inr (.inr (.inl rfl))))
def aCC{c:Nd}(hc:BO c)(hk:6<=c.kind/\c.kind<=8){u:List UInt8}:Yj u (IP c):=by
 obtain⟨_,h7,hn7⟩:=hc;have e:Yj u [T1 6 [59] [32]]:=E3 (Fk (by decide)) trivial;unfold IP;by_cases k6:c.kind=6;rw[if_pos k6];obtain⟨hl,hx⟩:=hn7 (by omega);generalize c.kids=ks at *
 match ks,hl with
 | [x],_=>exact CN (CN (E3 (SP (by decide) (by decide) (by decide) (by decide)) trivial) (axE (Cr x) x (aOC _) (hx x (by simp)) _ e59).1) e
 rw[if_neg k6];by_cases k8:c.kind=8;rw[if_pos k8];obtain⟨hl,hx⟩:=hn7 (by omega);generalize c.kids=ks at *
 match ks,hl with
 | [x],_=>exact CN (CN (E3 (SP (by decide) (by decide) (by decide) (by decide)) trivial) (axE (Cr x) x (aOC _) (hx x (by simp)) _ e59).1) e
 rw[if_neg k8];obtain⟨hl,hx⟩:=h7 (by omega);refine CN (CN (E3 (SP (by decide) (by decide) (by decide) (by decide)) trivial) (acN e59 _ λk hk u hu=>?_)) e;have:1<=k.n/\k.n<=1000000:=(hx k hk).2.2.2;exact Ii (MI (by omega) 0) (λ_=>hu.1) (λ_=>hu.2) trivial
def acM{cs:List Nd}(hc:∀c∈cs,BO c/\6<=c.kind/\c.kind<=8){u:List UInt8}:Yj u (cs.flatMap IP):=by
 induction cs with
 | nil=>trivial
 | cons c cs ih =>
   rw[bjZ];exact CN (aCC (hc c (by simp)).1 (hc c (by simp)).2) (ih λx hx=>hc x (by simp[hx]))
def aCD{n:Nd}(hi:GD n){u:List UInt8}:Yj u (Mk n [10]):=by
 have wk:∀{s:ByteArray},((1<=(bL s).length/\(bL s).length<=16)/\F7 2 (bL s)=true/\∀c∈bL s,cin 26 c=true)->IH (1,bL s,0):=λh=>SP h.1.1 h.1.2 h.2.1 h.2.2;unfold Mk;by_cases k2:n.kind=2;rw[if_pos k2];obtain⟨a,b,_⟩:=(it2 k2).1 hi;exact E3 (wk (by decide)) (E3 (aiQ a) (E3 (Fk (by decide)) (Ii (aiR b) (λ_=>aWC) (λh=>absurd h (aFR _)) (auE (by decide) trivial))));rw[if_neg k2];by_cases k3:n.kind=3;rw[if_pos k3];obtain⟨a,b,c,d,_⟩:=(it3 k3).1 hi;exact E3 (wk (by decide)) (E3 (aiQ a) (E3 (Fk (by decide)) (E3 (aiR b) (Ii (aGU _) (λ_=>aWC) (λh=>absurd h (by decide)) (auE (by decide) trivial)))));rw[if_neg k3];have k4:n.kind=4:=by have:=bM hi;omega
 obtain⟨hr,hnm,_,hd,cs,hk,hkd,_,_,hh,He⟩:=(it4 k4).1 hi;have hr:1<=n.n/\n.n<=1000000:=hr;obtain⟨_,hhn,hhk,hfr,hto,tJ,_⟩:=hh;have hfr:0<=hd.fr/\hd.fr<=36524:=hfr;have tJ:0<=hd.known/\hd.known<=36524:=tJ;rw[hk];dsimp only;unfold anI eX;refine CN (CN (CN (E3 (wk (by decide)) (E3 (MI (by omega) 0) (E3 (wk (by decide)) (E3 (aiQ hnm) trivial)))) (CN (CN (E3 (wk (by decide)) (E3 (MI (by omega) 0) (E3 (wk (by decide)) (E3 (VY hfr).2.1 trivial)))) ?_) (E3 (wk (by decide)) (E3 (VY tJ).2.1 (E3 (Fk (by decide)) trivial))))) (acM λc hc=>⟨He c hc,(hkd c hc).1,(hkd c hc).2⟩)) (auE (by decide) trivial);by_cases ht:hd.to<=36524;rw[if_pos ht];exact E3 (wk (by decide)) (E3 (VY (d:=hd.to) (by omega)).2.1 trivial);rw[if_neg ht];trivial
def auD:∀l:List Nd,(∀k∈l,GD k)->Yj [] (l.flatMap λk=>Mk k [10])
 | [],_=>trivial
 | k::l,h=>by
   rw[bjZ];exact CN (aCD (h k (by simp))) (auD l λx hx=>h x (by simp[hx]))
section
variable {en:Int} {r:List Tk}
def sM{fits:Tk->Option Bool}{t:Tk}(h:fits t=some true):Ly en fits (t::r)=some (.inl t,r):=by
 unfold Ly SA IN;dsimp only;rw[h];rfl
def rL{s:ByteArray}(h:JW s):fY en (⟨1,s,0⟩::r)=some (.inl ⟨1,s,0⟩,r) :=
 sM (by rw[BA,BY,nE rfl,cond_true,wI,LA h.2.2.1];rfl)
def aiD{s:ByteArray}(h:Kw s):oG en (⟨(RX s:Nat),s,0⟩::r)=some (.inl ⟨(RX s:Nat),s,0⟩,r):=by
 refine sM ?_;unfold Ha RX;simp only[EJ,BY,C4];by_cases h1:s=E8;rw[Ay h1];rw[AD h1];by_cases h2:s=Cp;rw[Ay h2];rw[AD h2];by_cases h3:s=Dz;rw[Ay h3];rw[AD h3,if_neg (by rintro(h | h | h);exact h1 h;exact h2 h;exact h3 h),Ay (show((2:Nat):Int)=2 from rfl)]
def aDP{z:Int}(h:1<=z/\z<=4):E4 (VJ z)=some z/\iB en (⟨1,VJ z,0⟩::r)=some (.inl ⟨1,VJ z,0⟩,r):=by
 rcases(show z=1\/z=2\/z=3\/z=4 by omega) with rfl | rfl | rfl | rfl<;>exact⟨rfl,sM rfl⟩
def Xj{d least:Int}(h:0<=d/\d<=36524)(hl:least<=d):TK en least (⟨5,⟨(Mp d).toArray⟩,0⟩::r)=some (.inl d,r):=by
 unfold TK;rw[BW (sM (t:=⟨5,⟨(Mp d).toArray⟩,0⟩) rfl)];unfold IN;rw[(VY h).2.2.1];dsimp only;rw[Ie rfl,cond_true,DQ hl,cond_false];rfl
def aAT{h:Nd}(hh:M7 h):Zw en (tk (eX h)++r)=some (.inl (DO h),(⟨6,aC,0⟩:Tk)::r):=by
 obtain⟨hk,hn,hkk,hfr,hto,tJ,hb⟩:=hh;have hfr:0<=h.fr/\h.fr<=36524:=hfr;have tJ:0<=h.known/\h.known<=36524:=tJ;obtain⟨b1,b2,b3,b4,b5,b6,b7,b8⟩:=vG.1 hb
 have Fl:DO h=⟨5,bE,bE,h.n,h.fr,h.to,h.known,⟨0,[]⟩,[],0⟩:=by
   rw[Gp,hk,b1,b2,biP hkk]
   have:h.BK=⟨0,[]⟩:=by
     cases ht:h.BK with
     | mk d p=>rw[ht] at b7 b8;simp only at b7 b8;rw[b7,b8]
   rw[this];rfl
 rw[Fl];unfold eX Zw;by_cases ht:h.to<=36524;rw[if_pos ht];show(BZ (II en Ml) _) ((⟨1,Ml,0⟩:Tk)::⟨3,⟨(Lf h.n).toArray⟩,0⟩::⟨1,NY,0⟩::⟨5,⟨(Mp h.fr).toArray⟩,0⟩::⟨1,toS,0⟩::⟨5,⟨(Mp h.to).toArray⟩,0⟩::⟨1,IY,0⟩::⟨5,⟨(Mp h.known).toArray⟩,0⟩::⟨6,aC,0⟩::r)=_;rw[BW (Jh (x:=Ml) (t:=⟨1,Ml,0⟩) rfl),BW (ZL (by omega)),BW (Jh (x:=NY) (t:=⟨1,NY,0⟩) rfl),BW (Xj hfr hfr.1)];unfold KR;rw[Rh,nE rfl,cond_true];unfold QC;dsimp only;rw[Ca (by omega),BW (Xj ⟨by omega,ht⟩ (by omega)),BW (Jh (x:=IY) (t:=⟨1,IY,0⟩) rfl),BW (Xj tJ tJ.1)];rfl;rw[if_neg ht];have e:h.to=36525:=by omega
 show(BZ (II en Ml) _) ((⟨1,Ml,0⟩:Tk)::⟨3,⟨(Lf h.n).toArray⟩,0⟩::⟨1,NY,0⟩::⟨5,⟨(Mp h.fr).toArray⟩,0⟩::⟨1,IY,0⟩::⟨5,⟨(Mp h.known).toArray⟩,0⟩::⟨6,aC,0⟩::r)=_;rw[BW (Jh (x:=Ml) (t:=⟨1,Ml,0⟩) rfl),BW (ZL (by omega)),BW (Jh (x:=NY) (t:=⟨1,NY,0⟩) rfl),BW (Xj hfr hfr.1)];unfold KR;rw[show DS toS ((⟨1,IY,0⟩:Tk)::⟨5,⟨(Mp h.known).toArray⟩,0⟩::⟨6,aC,0⟩::r)=false from rfl,cond_false,BW (Jh (x:=IY) (t:=⟨1,IY,0⟩) rfl),BW (Xj tJ tJ.1),e];rfl
def atW{z:Int}(h:1<=z/\z<=1000000):DA en (⟨3,⟨(Lf z).toArray⟩,0⟩::r)=some (.inl (C6 11 bE Cp z [] 0),r):=by
 unfold DA;rw[BW (ZL (by omega))];rfl
def agU{k:Nd}(h:OQ k/\Qb k):DO k=C6 11 bE Cp k.n [] 0/\1<=k.n/\k.n<=1000000:=by
 obtain⟨y1,⟨y2,⟨y3,y4,y5⟩,⟨y6,y7⟩,y8⟩,y9,Zl⟩:=UQ.1 h;refine⟨?_,Zl⟩;rw[PR (n:=k) (k:=11) (nm:=bE) (un:=Cp) (z:=k.n) (t:=⟨0,[]⟩) y1 (vG.2 ⟨y2,y9,rfl,y3,y4,y5,y6,y7⟩),y8];rfl
def wS:∀(l acc:List Nd),acc.length+l.length<=1000000->(∀k∈l,OQ k/\Qb k)->∀fuel,l.length < fuel ->
   N6 (DA en) fuel acc ((l.flatMap λk=>(⟨6,G3,0⟩:Tk)::tk (nuT k))++⟨6,CV,0⟩::r)=some (.inl (acc++l.map DO),⟨6,CV,0⟩::r)
 | [],acc,_,_,fuel,hf=>by
   obtain⟨m,rfl⟩:∃k,fuel=k+1:=⟨fuel - 1,by simp at hf;omega⟩;rw[boN,bcJ,N6,KR,show DS G3 ((⟨6,CV,0⟩:Tk)::r)=false from rfl,cond_false,bmX,bcB];rfl
 | k::l,acc,hl,h,fuel,hf=>by
   rw[Yy] at hl hf;obtain⟨m,rfl⟩:∃k,fuel=k+1:=⟨fuel - 1,by omega⟩;obtain⟨e1,e2⟩:=agU (h k (by simp));have ih:=wS l (acc++[DO k]) (by simp only[V5,bfG];omega) (λx hx=>h x (by simp[hx])) m (by omega);rw[bjZ,N6,KR,atS];rw[show ∀s:List Tk,DS G3 (((⟨6,G3,0⟩:Tk)::tk (nuT k))++s)=true from λ_=>rfl,cond_true];show(QC _) ((⟨6,G3,0⟩:Tk)::(⟨3,⟨(Lf k.n).toArray⟩,0⟩:Tk)::_)=_;unfold QC;dsimp only;rw[BW (atW e2)];unfold Mh;rw[Dw (by omega),<- e1];refine Eq.trans ih ?_;simp
def aDG{l:List Tk}{n:Nd}(hg:Gl l)(hl:l.length<=10000)(h:Qj en .ex l n r):OP en l=some (.inl n,r):=by
 obtain⟨q0,h⟩:=h;obtain⟨x,s,h2,_⟩:=axW (en:=en) (n:=l.length) hl hg (aOC _);have h3:=aeY hg hl h2 (max q0 (10*l.length+11)) (by omega);rw[h _ (by omega)] at h3;rw[h2,h3]
end
section
variable {en:Int} {r:List Tk}
def abF{a b:List Tk}(h:Gl (a++b)):Gl b:=λt ht=>h t (List.mem_append_right a ht)
def UL{t:Tk}{b:List Tk}(h:Gl (t::b)):Gl b:=λx hx=>h x (bjI t hx)
def aIA{x:Nd}(hx:OQ x)(h3:Cr x<=300){t:Tk}(ha:t.Bc=0){kind:Int}(hk:kind≠7)(hg:Gl (tk (tF x)++⟨6,CV,0⟩::r))(hl:(tk (tF x)++(⟨6,CV,0⟩:Tk)::r).length<=10000) :
   H7 en (OP en) kind (t::(tk (tF x)++⟨6,CV,0⟩::r))=some (.inl (C6 kind bE bE 0 [DO x] 0),r):=by
 have h1:=aDG hg hl (aKF (en:=en) (Cr x) x (aOC _) hx h3 (⟨6,CV,0⟩::r) (Xg ⟨_,_,rfl,.inr (.inr rfl)⟩));unfold H7 SA;dsimp only;unfold QC;dsimp only;rw[Kr hk,cond_false,BW h1,BW (Jh (x:=CV) (t:=⟨6,CV,0⟩) rfl),ha];rfl
def aVK{l:List Nd}(hl0:0 < l.length)(hl:l.length<=10000)(hx:∀k∈l,OQ k/\Qb k){t:Tk}(ha:t.Bc=0) :
   H7 en (OP en) 7 (t::(tk (OJ (l.map nuT))++⟨6,CV,0⟩::r))=some (.inl (C6 7 bE bE 0 (l.map DO) 0),r):=by
 cases l with
 | nil=>simp at hl0
 | cons a l =>
 obtain⟨e1,e2⟩:=agU (hx a (by simp));rw[iT];unfold H7 SA;dsimp only;unfold QC;dsimp only;rw[Ie rfl,cond_true]
 have hli:Qu (DA en) ((tk (nuT a)++l.flatMap λk=>(⟨6,G3,0⟩:Tk)::tk (nuT k))++⟨6,CV,0⟩::r)=some (.inl ((a::l).map DO),⟨6,CV,0⟩::r):=by
   rw[atS];show Qu (DA en) ((⟨3,⟨(Lf a.n).toArray⟩,0⟩:Tk)::((l.flatMap λk=>(⟨6,G3,0⟩:Tk)::tk (nuT k))++⟨6,CV,0⟩::r))=_;unfold Qu;rw[BW (atW e2),<- e1];rw[Yy] at hl;refine(wS l [DO a] (by simp only[bfG];omega) (λk hk=>hx k (by simp[hk])) _ ?_).trans ?_;have:=abC (λk=>tk (nuT k)) l;simp only[V5,Yy];omega;simp
 rw[BW hli,BW (Jh (x:=CV) (t:=⟨6,CV,0⟩) rfl),ha];rfl
def aEO{c:Nd}(hc:BO c):DO c=C6 c.kind bE bE 0 (c.kids.map DO) 0:=by
 obtain⟨hb,_⟩:=hc;obtain⟨b1,b2,b3,b4,b5,b6,b7,b8⟩:=hb;exact PR (t:=⟨0,[]⟩) rfl ⟨b1,b2,b3,b4,b5,b6,b7,b8⟩
def azI{c:Nd}(hc:BO c)(hk:6<=c.kind/\c.kind<=8)(h3:Cr c<=300)(hg:Gl (tk (IP c)++r))(hl:(tk (IP c)++r).length<=10000) :
   ∃t s,tk (IP c)++r=t::s/\t.Bc=0/\t.text=(if c.kind=6 then Nx else if c.kind=8 then GU else Ho)/\H7 en (OP en) c.kind (t::s)=some (.inl (DO c),r):=by
 have Fl:=aEO hc;obtain⟨_,h7,hn7⟩:=hc;have hsz:=Cu c;unfold IP at hg hl ⊢;by_cases k6:c.kind=6
 · rw[if_pos k6] at hg hl ⊢
   rw[if_pos k6];obtain⟨hln,hx⟩:=hn7 (by omega);rw[Fl];generalize c.kids=ks at *
   match ks,hln with
   | [x],_ =>
   rw[oC] at hsz
   have e:tk ([T1 1 (bL Nx) [32]]++([x].map tF).getD 0 []++[T1 6 [59] [32]])++r=⟨1,Nx,0⟩::(tk (tF x)++⟨6,CV,0⟩::r):=by
     rw[EK,EK,atS,atS];rfl
   rw[e] at hg hl ⊢;exact⟨_,_,rfl,rfl,rfl,by rw[k6];exact aIA (hx x (by simp)) (by omega) rfl (by decide) (UL hg) (by rw[Yy] at hl;omega)⟩
 rw[if_neg k6] at hg hl ⊢;rw[if_neg k6];by_cases k8:c.kind=8
 · rw[if_pos k8] at hg hl ⊢
   rw[if_pos k8];obtain⟨hln,hx⟩:=hn7 (by omega);rw[Fl];generalize c.kids=ks at *
   match ks,hln with
   | [x],_ =>
   rw[oC] at hsz
   have e:tk ([T1 1 (bL GU) [32]]++([x].map tF).getD 0 []++[T1 6 [59] [32]])++r=⟨1,GU,0⟩::(tk (tF x)++⟨6,CV,0⟩::r):=by
     rw[EK,EK,atS,atS];rfl
   rw[e] at hg hl ⊢;exact⟨_,_,rfl,rfl,rfl,by rw[k8];exact aIA (hx x (by simp)) (by omega) rfl (by decide) (UL hg) (by rw[Yy] at hl;omega)⟩
 rw[if_neg k8] at hg hl ⊢;rw[if_neg k8];have k7:c.kind=7:=by omega
 obtain⟨hln,hx⟩:=h7 k7;have bI:=Ja c.kids
 have e:tk ([T1 1 (bL Ho) [32]]++OJ (c.kids.map nuT)++[T1 6 [59] [32]])++r=⟨1,Ho,0⟩::(tk (OJ (c.kids.map nuT))++⟨6,CV,0⟩::r):=by
   rw[EK,EK,atS,atS];rfl
 rw[e] at hg hl ⊢;exact⟨_,_,rfl,rfl,rfl,by rw[Fl,k7];exact aVK hln (by omega) hx rfl⟩
def XQ(mk:List Nd->Nd):∀(cs acc:List Nd) (un am:Bool) (fuel:Nat),cs.length < fuel->acc.length+cs.length<=100000->D7 cs<=299->(∀c∈cs,BO c/\6<=c.kind/\c.kind<=8) ->
   Dj 7 cs+(if un then 1 else 0)<=1->Dj 8 cs+(if am then 1 else 0)=1->Gl (tk (cs.flatMap IP)++⟨6,Uh,0⟩::r)->(tk (cs.flatMap IP)++(⟨6,Uh,0⟩:Tk)::r).length<=10000 ->
   J5 en (OP en) mk fuel acc un am (tk (cs.flatMap IP)++⟨6,Uh,0⟩::r)=some (.inl (mk (acc++cs.map DO)),r)
 | [],acc,un,am,fuel,hf,_,_,_,_,h8,_,_=>by
   obtain⟨q,rfl⟩:∃k,fuel=k+1:=⟨fuel - 1,by simp at hf;omega⟩
   have hm:am=true:=by
     cases am with
     | true=>rfl
     | false=>simp[Dj] at h8
   subst hm;rw[boN,bmX,bcB];rfl
 | c::cs,acc,un,am,fuel,hf,kL,h3,hc,h7,h8,hg,hl=>by
   obtain⟨q,rfl⟩:∃k,fuel=k+1:=⟨fuel - 1,by rw[Yy] at hf;omega⟩;rw[Yy] at hf kL;rw[D7] at h3
   have es:tk ((c::cs).flatMap IP)++(⟨6,Uh,0⟩:Tk)::r=tk (IP c)++(tk (cs.flatMap IP)++⟨6,Uh,0⟩::r):=by
     rw[bjZ,EK,atS]
   rw[es] at hg hl ⊢;obtain⟨hc1,qI⟩:=hc c (by simp);obtain⟨t,s,e1,e2,e3,e4⟩:=azI (en:=en) hc1 qI (by omega) hg hl;have hg2:=abF hg;have hl2:(tk (cs.flatMap IP)++(⟨6,Uh,0⟩:Tk)::r).length<=10000:=by rw[V5] at hl;omega
   rw[e1];rw[Dj] at h7 h8;unfold J5 SA;dsimp only;rw[e3];by_cases k6:c.kind=6;rw[if_pos k6,show BD (Nx).data.toList Nx.data.toList=true from rfl,cond_true];rw[k6] at e4;rw[BW e4];unfold Mh;rw[Dw (by omega),XQ mk cs (acc++[DO c]) un am q (by omega) (by simp only[V5,bfG];omega) (by omega) (λx hx=>hc x (by simp[hx])) (by rw[if_neg (by omega)] at h7;omega) (by rw[if_neg (by omega)] at h8;omega) hg2 hl2];simp;rw[if_neg k6];by_cases k8:c.kind=8
   have hm:am=false:=by
     cases am with
     | false=>rfl
     | true=>rw[if_pos k8] at h8;simp at h8
   subst hm;rw[if_pos k8,show BD (GU).data.toList Nx.data.toList=false from rfl,cond_false,show BD (GU).data.toList Ho.data.toList=false from rfl,cond_false,show BD (GU).data.toList GU.data.toList=true from rfl,cond_true,cond_false];rw[k8] at e4;rw[BW e4];unfold Mh;rw[Dw (by omega),XQ mk cs (acc++[DO c]) un true q (by omega) (by simp only[V5,bfG];omega) (by omega) (λx hx=>hc x (by simp[hx])) (by rw[if_neg (by omega)] at h7;omega) (by rw[if_pos k8] at h8;simp at h8 ⊢;omega) hg2 hl2];simp;have k7:c.kind=7:=by omega
   have hm:un=false:=by
     cases un with
     | false=>rfl
     | true=>rw[if_pos k7] at h7;simp at h7
   subst hm;rw[if_neg k8,show BD (Ho).data.toList Nx.data.toList=false from rfl,cond_false,show BD (Ho).data.toList Ho.data.toList=true from rfl,cond_true,cond_false];rw[k7] at e4;rw[BW e4];unfold Mh;rw[Dw (by omega),XQ mk cs (acc++[DO c]) true am q (by omega) (by simp only[V5,bfG];omega) (by omega) (λx hx=>hc x (by simp[hx])) (by rw[if_pos k7] at h7;simp at h7 ⊢;omega) (by rw[if_neg (by omega)] at h8;omega) hg2 hl2];simp
def uT(cs:List Nd)(h:∀c∈cs,BO c/\6<=c.kind/\c.kind<=8):cs.length<=(tk (cs.flatMap IP)).length:=by
 induction cs with
 | nil=>exact Nat.zero_le _
 | cons c cs ih =>
   have:=ih λx hx=>h x (by simp[hx]);rw[bjZ,EK,V5,Yy]
   have h1:1<=(tk (IP c)).length:=by
     unfold IP;split;simp;split<;>simp
   omega
def aBG{n:Nd}(hi:GD n)(h3:Cr n<=300){g:List UInt8}(hg:Gl (tk (Mk n g)++r))(hl:(tk (Mk n g)++r).length<=10000):(∃t s,tk (Mk n g)++r=t::s)/\N2 en (OP en) (tk (Mk n g)++r)=some (.inl (DO n),r):=by
 have hsz:=Cu n;unfold Mk at hg hl ⊢;by_cases k2:n.kind=2;rw[if_pos k2] at hg hl ⊢;obtain⟨a,b,c,d⟩:=(it2 k2).1 hi;refine⟨⟨_,_,rfl⟩,?_⟩;rw[PR (t:=⟨0,[]⟩) k2 d,biP c];show N2 en (OP en) ((⟨1,M6,0⟩:Tk)::⟨1,n.name,0⟩::⟨6,PG,0⟩::⟨(RX n.unit:Nat),n.unit,0⟩::⟨6,CV,0⟩::r)=_;unfold N2 SA;show Rz en ((⟨1,M6,0⟩:Tk)::⟨1,n.name,0⟩::⟨6,PG,0⟩::⟨(RX n.unit:Nat),n.unit,0⟩::⟨6,CV,0⟩::r)=_;unfold Rz SA QC;dsimp only;rw[BW (rL a),BW (Jh (x:=PG) (t:=⟨6,PG,0⟩) rfl),BW (aiD b),show BD (M6).data.toList JU.data.toList=false from rfl,cond_false,BW (Jh (x:=CV) (t:=⟨6,CV,0⟩) rfl)];rfl;rw[if_neg k2] at hg hl ⊢;by_cases k3:n.kind=3;rw[if_pos k3] at hg hl ⊢;obtain⟨a,b,c1,c2,c,d⟩:=(it3 k3).1 hi;refine⟨⟨_,_,rfl⟩,?_⟩;rw[PR (t:=⟨0,[]⟩) k3 d,biP c];obtain⟨r1,r2⟩:=aDP (en:=en) (r:=⟨6,CV,0⟩::r) ⟨c1,c2⟩;show N2 en (OP en) ((⟨1,JU,0⟩:Tk)::⟨1,n.name,0⟩::⟨6,PG,0⟩::⟨(RX n.unit:Nat),n.unit,0⟩::⟨1,VJ n.n,0⟩::⟨6,CV,0⟩::r)=_;unfold N2 SA;show Rz en ((⟨1,JU,0⟩:Tk)::⟨1,n.name,0⟩::⟨6,PG,0⟩::⟨(RX n.unit:Nat),n.unit,0⟩::⟨1,VJ n.n,0⟩::⟨6,CV,0⟩::r)=_;unfold Rz SA QC;dsimp only;rw[BW (rL a),BW (Jh (x:=PG) (t:=⟨6,PG,0⟩) rfl),BW (aiD b),show BD (JU).data.toList JU.data.toList=true from rfl,cond_true,BW r2];unfold IN;rw[r1];dsimp only;rw[BW (Jh (x:=CV) (t:=⟨6,CV,0⟩) rfl)];rfl;rw[if_neg k3] at hg hl ⊢;have k4:n.kind=4:=by have:=bM hi;omega
 obtain⟨hr,hnm,hb,hd,cs,hk,hkd,h8,h7,hh,He⟩:=(it4 k4).1 hi;have hr:1<=n.n/\n.n<=1000000:=hr;rw[hk,D7] at hsz;have Gr:=Cu hd;have bI:=Ja cs;rw[hk] at hg hl ⊢;dsimp only at hg hl ⊢;have hcc:∀c∈cs,BO c/\6<=c.kind/\c.kind<=8:=λc hc=>⟨He c hc,(hkd c hc).1,(hkd c hc).2⟩
 have e:tk (anI n hd cs g)++r=(⟨1,Dx,0⟩:Tk)::⟨3,⟨(Lf n.n).toArray⟩,0⟩::⟨1,V3,0⟩::⟨1,n.name,0⟩::(tk (eX hd)++(tk (cs.flatMap IP)++⟨6,Uh,0⟩::r)):=by
   unfold anI;rw[EK,EK,EK,atS,atS,atS];rfl
 rw[e] at hg hl ⊢;refine⟨⟨_,_,rfl⟩,?_⟩;have hg2:Gl (tk (cs.flatMap IP)++⟨6,Uh,0⟩::r):=abF (UL (UL (UL (UL hg))));have hl2:(tk (cs.flatMap IP)++(⟨6,Uh,0⟩:Tk)::r).length<=10000:=by simp only[Yy,V5] at hl ⊢;omega
 unfold N2 SA;show LI en (OP en) ((⟨1,Dx,0⟩:Tk)::⟨3,⟨(Lf n.n).toArray⟩,0⟩::⟨1,V3,0⟩::⟨1,n.name,0⟩::(tk (eX hd)++(tk (cs.flatMap IP)++⟨6,Uh,0⟩::r)))=_;unfold LI;rw[BW (Jh (x:=Dx) (t:=⟨1,Dx,0⟩) rfl),BW (ZL (by omega)),BW (Jh (x:=V3) (t:=⟨1,V3,0⟩) rfl),BW (rL hnm),BW (aAT hh),BW (Jh (x:=aC) (t:=⟨6,aC,0⟩) rfl)];have aWV:=uT cs hcc;rw[XQ _ cs [DO hd] false false _ (by rw[V5,Yy];omega) (by simp only[bfG];omega) (by omega) hcc (by simp;omega) (by simp;omega) hg2 hl2];rw[PR (t:=⟨0,[]⟩) k4 hb,hk];rfl
def axJ:∀(l acc:List Nd) (q:Nat),l.length < q->(∀k∈l,GD k)->D7 l<=300->Gl (tk (l.flatMap λk=>Mk k [10]))->(tk (l.flatMap λk=>Mk k [10])).length<=10000 ->
   Vn en q (tk (l.flatMap λk=>Mk k [10])) acc []=some (acc++l.map DO,[])
 | [],acc,q,hq,_,_,_,_=>by
   obtain⟨q,rfl⟩:∃k,q=k+1:=⟨q - 1,by simp at hq;omega⟩;rw[bmX,bcB];rfl
 | k::l,acc,q,hq,hk,h3,hg,hl=>by
   obtain⟨q,rfl⟩:∃k,q=k+1:=⟨q - 1,by omega⟩;rw[Yy] at hq;rw[D7] at h3;rw[bjZ,EK] at hg hl ⊢;obtain⟨⟨t,s,e1⟩,e2⟩:=aBG (en:=en) (hk k (by simp)) (by omega) hg hl;have ih:=axJ l (acc++[DO k]) q (by omega) (λx hx=>hk x (by simp[hx])) (by omega) (abF hg) (by rw[V5] at hl;omega);rw[e1] at e2 ⊢;rw[Vn,G4 (by simp),cond_true,e2];dsimp only;rw[ih];simp
end
def aNU{l l':List Tk}(h:F2 (λ_ _=>True) l l')(hg:Gl l'):Gl l:=by
 induction h with
 | nil=>exact λt ht=>by cases ht
 | @cons t0 t1 _ _ ht _ ih =>
   intro t hm;rcases biX.1 hm with rfl | hm
   have:=hg _ (List.mem_cons_self ..);obtain⟨k1,k2,_⟩:=ht;refine⟨λq=>by rw[k2];exact this.num (by rw[<- k1];exact q),λq=>?_,λq=>by rw[k2];exact this.date (by rw[<- k1];exact q),by rw[k2];exact this.len⟩;obtain⟨z,hz,hz2⟩:=this.aoA (by rw[<- k1];exact q);refine⟨z,?_,hz2⟩;unfold BQ at hz ⊢;rw[k2];exact hz;exact ih (λx hx=>hg x (bjI _ hx)) t hm
def ajV{S:Int->Int->Prop}{l l':List Tk}(h:F2 S l l'):l.length=l'.length:=by
 induction h with
 | nil=>rfl
 | cons _ _ ih=>rw[Yy,Yy,ih]
def aoW{n:Nd}{s:ByteArray}(hk1:n.kind=1)(hb:EZ n z0)(hk:∀k∈n.kids,GD k)(h3:Cr n<=300)(hd:Mq n<=40)(hs:bL s=Al (n.kids.flatMap λk=>Mk k [10]))(he:Q3 s=0) :
   ∃t,C7 s=some (t,[])/\DO t=DO n/\Cr t=Cr n/\Vd t:=by
 have hz:=Cu n;have hdp:=Ky n;have bI:=Ja n.kids;have htk:=aKI (rN _ (auD n.kids hk)) hs he;obtain⟨ks,ds,p1,p2,p3,p4⟩:=agX he
 have f:F2 (λ_ _=>True) (tk (n.kids.flatMap λk=>Mk k [10])) (FR s):=by
   rw[htk];have:=jH (S:=λ_ _=>True) (λ_ _=>trivial) (n.kids.flatMap λk=>Mk k [10]) 0;rw[bmQ] at this;exact this
 obtain⟨g1,g2⟩:=Ze s;have hg:=aNU f g1;have hl:=ajV f;have ht:=axJ (en:=0) n.kids [] (n.kids.length+1) (by omega) hk (by omega) hg (by omega);rw[bcJ] at ht;obtain⟨r1,r2⟩:=aFM (S:=λ_ _=>True) (en:=0) (en':=((s.data.toList.length:Nat):Int)) _ _ f .nil rfl ht p1;dsimp only at r1 r2;have hds:ds=[]:=List.map_eq_nil_iff.1 r2.symm;subst hds;obtain⟨a1,a2,a3⟩:=aRJ r1
 have e1:D7 (n.kids.map DO)=D7 n.kids:=by
   have:=(X6 n).1;rw[Cu,Cu n,Gp] at this;dsimp only at this;omega
 have e2:Yh (n.kids.map DO)=Yh n.kids:=by
   have:=(X6 n).2;rw[Ky,Ky n,Gp] at this;dsimp only at this;omega
 have Fl:DO (PK ks)=DO n:=by
   rw[Gp (PK ks),PR (t:=⟨0,[]⟩) hk1 hb];unfold PK;dsimp only;rw[<- a3,bmQ];congr 1;refine List.map_congr_left λk _=>?_;exact aKB k
 have q1:Cr (PK ks)=1+D7 ks:=Cu _;have q2:Mq (PK ks)=1+Yh ks:=Ky _;have jX:=(UP (n:=n) hb.2.2.2.2.2.2.2 (by omega) λk hm=>akL (hk k hm) (by have:=MY hm;omega)).2;refine⟨PK ks,?_,Fl,by omega,aJS _ (by rw[Fl];exact xH n jX)⟩;rw[p2];show some (akR (PK ks))=_;unfold akR;rw[if_neg (by omega)]
def Tn(hh:LR=some true)(n:Nd)(hn:GZ n)(more:Int)(hm:0<=more/\more<=255):Fb n more=some true:=by
 unfold Fb;rw[hh,NF,aIG n 300 hn (by omega),NF];by_cases h3:((Cr n:Nat):Int)<=300;rotate_left;rw[LA h3];rfl;rw[nE h3,cond_true,aGB hn,NF];by_cases hv:okV n;rotate_left;rw[LA hv];rfl;rw[nE hv,cond_true];obtain⟨hv,hz,hd⟩:=hv;by_cases k1:n.kind=1
 · rw[Ie k1,cond_true]
   obtain⟨_,hb,hk⟩:=hv.resolve_right λh=>h.1 k1;obtain⟨s,a1,a2⟩:=aTJ hk (by omega);rw[a1,NF];by_cases he:Q3 s=0;rotate_left;rw[alA he,NF];dsimp only[cond];rw[jD,NF,LA he];obtain⟨t,c1,c2,c3,c4⟩:=aoW k1 hb hk (by omega) hd a2 he;rw[c1,NF];dsimp only[cond];rw[jD,NF,nE he];dsimp only;rw[Ie (by simp)];dsimp only;rw[xI (by omega) c4,NF,iF (by omega),NF,c2,adH (by rw[<- c2];have:=(X6 t).1;omega) (by rw[<- c2];exact xH _ c4)];rfl
 rw[Kr k1,cond_false];obtain⟨_,hx⟩:=hv.resolve_left λh=>k1 h.1;exact aQT n more hm hx (by omega) hd
end Mo
end Go.Proofs.YtpbkhogolfegfaaGreatDoor
namespace Go.Proofs.YtpbkhogolfegfaaGreatDoor
open AI Go
namespace Mo
def TP(n:Nd)(more:Int)(hn:GZ n)(hm:(Lit.int .u8 more).wf=true):Fb n more=some true:=by
 have h:0<=more/\more<=255:=by
   unfold Lit.wf at hm;dsimp only at hm;rw[bcA] at hm;have h1:(bpI.min:Int)<=more:=of_decide_eq_true hm.1;have h2:more<=(bpI.max:Int):=of_decide_eq_true hm.2;have e1:(bpI.min:Int)=0:=by decide
   have e2:(bpI.max:Int)=255:=by decide
   omega
 exact Tn akE n hn more h
end Mo
end Go.Proofs.YtpbkhogolfegfaaGreatDoor
