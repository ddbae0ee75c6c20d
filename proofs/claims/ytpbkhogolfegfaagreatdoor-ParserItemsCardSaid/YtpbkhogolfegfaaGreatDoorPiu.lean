/- Part of a proof: see the last text. -/
import Derived.Test.YtpbkhogolfegfaaGreatDoorPit
set_option linter.unusedVariables false
set_option linter.unusedSimpArgs false
set_option linter.defProp false
noncomputable section
namespace Go.Proofs.YtpbkhogolfegfaaGreatDoor
open AI Go LexS
namespace Mo
set_option maxRecDepth 100000
set_option maxHeartbeats 4000000
def rP(a b:List UInt8)(ha:∀x∈Dl a,x.1≠0):Dl (a++10::b)=Dl a++SV (a.length+1) (Dl b):=by
 have Kr:DT (a++10::b) (a.length+1+D2 b)=SV (a.length+1) (Dl b):=by
   have:=aY (a++[10]) b (D2 b);rw[List.length_append,List.length_singleton,List.append_assoc,List.singleton_append] at this;rw[this,Mu]
 rw[Mu,show D2 (a++10::b)=_ from sM false a b];by_cases he:Gb false a=a.length;rw[if_pos he];have:Dl a=[]:=by rw[Mu];exact Px _ _ (by unfold D2;omega)
 rw[this,List.nil_append];exact Kr;rw[if_neg he];have hsl:=Pk a;have GM:D2 a < a.length:=by unfold D2 at hsl ⊢;omega
 have:=iL a b a.length (D2 a) (by omega) GM (by rw[<- Mu];exact ha);rw[Kr,<- Mu] at this;exact this
def Sh(d p p':Int):Prop:=p'=p+d
def mD(d:Nat):∀l:List Tok,F2 (Sh (d:Int)) (l.map IP) ((SV d l).map IP)
 | []=>.nil
 | x::l=>.cons ⟨rfl,rfl,by show((x.2.2+d:Nat):Int)=((x.2.2:Nat):Int)+(d:Int);omega⟩ (mD d l)
def adG{a b c:ByteArray}(hc:c.data.toList=a.data.toList++10::b.data.toList)(ha:PK a=0)(hb:PK b=0)(h:PK c=0):∃W,D3 c=D3 a++W/\F2 (Sh ((a.data.toList.length:Nat)+1)) (D3 b) W:=by
 obtain⟨_,h1,h2,_⟩:=Vn _ ha;obtain⟨_,h3,_⟩:=Vn _ hb;obtain⟨_,h5,_⟩:=Vn _ h;refine⟨(SV (a.data.toList.length+1) (Dl b.data.toList)).map IP,?_,?_⟩;unfold D3;rw[<- h5,hc,rP _ _ h2.2,h1,List.map_append];unfold D3;rw[<- h3];have:=mD (a.data.toList.length+1) (Dl b.data.toList);rwa[show((a.data.toList.length+1:Nat):Int)=((a.data.toList.length:Nat):Int)+1 by omega] at this
section
variable {en en':Int}
def ZH:∀(q q':Nat) (l:List Tk) (ks:List Nd) (ds:List Dg) (r:List Nd×List Dg),q<=q'->Jh en q l ks ds=some r->Jh en q' l ks ds=some r:=by
 intro q
 induction q with
 | zero=>intro q' l ks ds r _ h;cases h
 | succ q ih =>
   intro q' l ks ds r hq h;obtain⟨q',rfl⟩:∃p,q'=p+1:=⟨q' - 1,by omega⟩;cases l with
   | nil=>exact h
   | cons t l =>
     unfold Jh at h ⊢;cases hc:Ez ((ds.length:Nat):Int) 20 with
     | false=>rw[hc] at h;exact h
     | true =>
       rw[hc] at h;dsimp only[cond] at h ⊢;split at h;cases h;rename_i n s hi;exact ih q' _ _ _ _ (by omega) h;rename_i d s hi;exact ih q' _ _ _ _ (by omega) h
def adH{q q':Nat}{l:List Tk}{ks:List Nd}{ds:List Dg}{r r':List Nd×List Dg}(h:Jh en q l ks ds=some r)(h':Jh en q' l ks ds=some r'):r=r':=by
 have h1:=ZH q (max q q') l ks ds r (Nat.le_max_left ..) h;have h2:=ZH q' (max q q') l ks ds r' (Nat.le_max_right ..) h';exact Option.some.inj (h1.symm.trans h2)
def ahb:∀(q:Nat) (l:List Tk) (k1 ks:List Nd) (ds:List Dg) (r:List Nd×List Dg),Jh en q l ks ds=some r->Jh en q l (k1++ks) ds=some (k1++r.1,r.2):=by
 intro q
 induction q with
 | zero=>intro l k1 ks ds r h;cases h
 | succ q ih =>
   intro l k1 ks ds r h;cases l with
   | nil=>cases h;rfl
   | cons t l =>
     unfold Jh at h ⊢;cases hc:Ez ((ds.length:Nat):Int) 20 with
     | false=>rw[hc] at h;cases h;rfl
     | true =>
       rw[hc] at h;dsimp only[cond] at h ⊢;split at h;cases h;rename_i n s hi;have:=ih s k1 _ _ _ h;rw[<- List.append_assoc] at this;exact this;rename_i d s hi;exact ih _ k1 _ _ _ h
def alo:∀(q:Nat) (l:List Tk) (ks:List Nd) (ds:List Dg) (r:List Nd×List Dg),Jh en q l ks ds=some r->ds.length<=r.2.length:=by
 intro q
 induction q with
 | zero=>intro l ks ds r h;cases h
 | succ q ih =>
   intro l ks ds r h;cases l with
   | nil=>cases h;exact Nat.le_refl _
   | cons t l =>
     unfold Jh at h;cases hd:Ez ((ds.length:Nat):Int) 20 with
     | false=>rw[hd] at h;cases h;exact Nat.le_refl _
     | true =>
       rw[hd] at h;dsimp only[cond] at h;split at h;cases h;exact ih _ _ _ _ h;have:=ih _ _ _ _ h;simp only[List.length_append,List.length_singleton] at this;omega
def ahc{w:List Tk}:∀(q q2:Nat) (l:List Tk) (ks:List Nd) (k1:List Nd) (r:List Nd×List Dg),Gl (l++w)->(l++w).length<=10000->Jh en q l ks []=some (k1,[])->Jh en' q2 w k1 []=some r->Jh en' (q+q2) (l++w) ks []=some r:=by
 intro q
 induction q with
 | zero=>intro q2 l ks k1 r _ _ h;cases h
 | succ q ih =>
   intro q2 l ks k1 r hg hl h h2;cases l with
   | nil =>
     cases h;exact ZH _ _ _ _ _ _ (by omega) h2
   | cons t l =>
     unfold Jh at h;rw[show q+1+q2=(q+q2)+1 by omega];rw[List.cons_append];unfold Jh;have hc:Ez ((([]:List Dg).length:Nat):Int) 20=true:=Ir (by simp);rw[hc] at h ⊢;dsimp only[cond] at h ⊢;split at h;cases h
     . rename_i n s hi
       have YV:Gl (t::l):=λu hu=>hg u (List.mem_append_left _ hu);obtain⟨r2,s2,e2,_,_⟩:=iA (st:=true) (en:=en') (n:=(t::(l++w)).length) (by simpa using hl) (by simpa using hg) (Nat.le_refl _)
       have hl1:(t::l).length<=10000:=by rw[List.length_append] at hl;omega
       obtain⟨⟨j,hj⟩,_⟩:=Mk YV hl1 hi;rcases VA (S:=(·=·)) (en:=en) (en':=en') (w:=w) (b:=true) (eW (t::l)) hi (by rw[List.cons_append];exact e2) with ⟨s1,rfl,f1,q1⟩ | ⟨_,_,h3⟩
       . cases q1 with
         | l q1 =>
           rw[e2];dsimp only;rw[<- aiv q1,<- ah8 f1];refine ih q2 s _ k1 r ?_ ?_ h h2;intro u hu;rcases List.mem_append.1 hu with hu | hu
           rw[hj] at hu;exact hg u (List.mem_append_left _ (List.mem_of_mem_drop hu));exact hg u (List.mem_append_right _ hu);have:s.length<=(t::l).length:=by rw[hj,List.length_drop];omega
           rw[List.length_append] at hl ⊢;omega
       rcases h3 with h3 | ⟨h3,_⟩<;>cases h3
     have:=alo _ _ _ _ _ h;simp at this
end
mutual
def mC(d:Int):Nd->Nd
 | ⟨kind,name,unit,n,fr,to,known,CF,kids,a⟩=>⟨kind,name,unit,n,fr,to,known,CF,shL d kids,a+d⟩
def shL(d:Int):List Nd->List Nd
 | []=>[]
 | k::ks=>mC d k::shL d ks
end
def uO(d:Int):∀l:List Nd,shL d l=l.map (mC d)
 | []=>by rw[shL];rfl
 | k::l=>by rw[shL,uO d l];rfl
def adb(d:Int)(n:Nd):mC d n=⟨n.kind,n.name,n.unit,n.n,n.fr,n.to,n.known,n.CF,n.kids.map (mC d),n.AH+d⟩:=by cases n;rw[mC,uO]
def amZ{d:Int}{n n':Nd}(h:NR (Sh d) n n'):n'=mC d n:=by
 refine NR.rec (S:=Sh d) (motive_1:=λa b _=>b=mC d a) (motive_2:=λa b _=>b=shL d a) ?_ rfl ?_ h;intro k nm u n f t kn tb ks ks' a a' _ hs ih;rw[mC,ih,hs];intro n n' l l' _ _ h1 h2;rw[shL,h1,h2]
def akD{d:Int}{l l':List Nd}(h:dP (Sh d) l l'):l'=l.map (mC d):=by
 induction l generalizing l' with
 | nil=>cases h;rfl
 | cons n l ih=>cases h with | cons h1 h2=>rw[amZ h1,ih h2];rfl
def yF{d:Int}(hd:0<=d/\d<=1000000):∀(q:Nat) (n:Nd),DG n<=q->DG n<=100000->UL 1000000 n->0<=n.AH->EA q n d=some (mC d n):=by
 intro q
 induction q with
 | zero=>intro n h;have:=E6 n;omega
 | succ q ih =>
   intro n hq hz ho h0;have Qi:=E6 n;have hl:=MJ n.kids;obtain⟨o1,o2⟩:=(Kh n).1 ho
   have key:∀(m:List Nd) (i:Nat) (acc:List Nd),(∀k∈m,k∈n.kids)->acc.length+m.length<=100000->CO (ρ:=Nd) (λi y x=>Iq (EA q) d i y x) (λx=>x) m i acc=some (.inl (acc++m.map (mC d))):=by
     intro m
     induction m with
     | nil=>intro i acc _ _;simp[CO]
     | cons y m ihm =>
       intro i acc hm hc;simp only[List.length_cons] at hc;have hmy:=hm y (List.mem_cons_self ..);have hy:=LW hmy;have oy:=o2 y hmy;rw[CO,Iq,ih y (by omega) (by omega) oy.2 (by omega),Option.bind_some,Fl (by omega),Option.bind_some];have:=ihm (i+1) (acc++[mC d y]) (λk hk=>hm k (List.mem_cons_of_mem _ hk)) (by simp only[List.length_append,List.length_singleton];omega);dsimp only[Qd];rw[this,List.append_assoc];rfl
   rw[EA,KU,show RT n.kids.length=λy:Option (List Nd⊕Nd)=>y from funext λy=>if_pos (by omega),List.drop_zero,key n.kids 0 [] (λ_ h=>h) (by simp only[List.length_nil];omega),adb];dsimp only[Option.bind,Ma];rw[CM (by omega)];rfl
def yG{d:Int}(hd:0<=d/\d<=1000000){n:Nd}(hz:DG n<=100000)(ho:UL 1000000 n)(h0:0<=n.AH):I0 n d=some (mC d n):=T5 (DG n) λq hq=>yF hd q n hq hz ho h0
def yQ{l:List Nd}{i:Nat}{y:Nd}(h:l[i]?=some y):Gk (l.take (i+1))=Gk (l.take i)+DG y:=by
 rw[List.take_add_one,h,QP];simp[Gk]
def yS(l:List Nd)(i:Nat):Gk (l.take i)<=Gk l:=by
 have:=QP (l.take i) (l.drop i);rw[List.take_append_drop] at this;omega
def alR:∀(n:Nat) (e:Nd) (l:Int),DG e<=n->DG e<=1000000->l<=1000000->GD n e l=some (max 0 (min ((DG e:Nat):Int) l)):=by
 intro n
 induction n with
 | zero=>intro e l h;have:=E6 e;omega
 | succ n ih =>
   intro e l hn hz hl;have hp:=E6 e;have hk:=MJ e.kids;rw[GD,MB,ahV];simp only[Re,Mf,oB,UQ];refine⟨λh=>by omega,λh=>?_⟩;refine aeK (λi x=>x=min (((1+Gk (e.kids.take i):Nat)):Int) l) (by omega) (by simp[Gk];omega) (λi y x hy hx=>?_) (λx hx=>?_);have hm:=List.mem_of_getElem? hy;have h1:=yQ hy;have h2:=yS e.kids (i+1);have h3:=LW hm;simp only[LP,On,Mf,oB,rR,UQ,alE,alD];refine⟨λh4=>?_,λh4=>by omega⟩;rw[KZ (by omega),ih y (l - x) (by omega) (by omega) (by omega),UQ,CM (by omega)];omega;rw[List.take_length] at hx;rw[UQ];omega
def ah9(e:Nd)(l:Int)(h:DG e<=1000000)(hl:0<=l/\l < 1000000):Lm e l=some (mb (((DG e:Nat):Int)<=l)):=by
 have hc:PY e (l+1)=some (max 0 (min ((DG e:Nat):Int) (l+1))):=T5 (DG e) λn hn=>alR n e (l+1) hn h (by omega);rw[Lm,CM (by omega),hc,ahV];simp only[Re,Mf,oB,UQ,rR,rJ,WQ];omega
def ae5(l m:List Nd):UK (l++m)=max (UK l) (UK m):=by
 induction l with
 | nil=>simp[UK]
 | cons a l ih=>simp only[List.cons_append,UK,ih];omega
def Xo(hh:Kg=some true)(a b:ByteArray)(la:a.data.toList.length<=140737488351232)(lb:b.data.toList.length<=140737488351232):Gp a b=some true:=by
 have VU:(aP).data.toList=[10]:=rfl
 have Ii:((a++aP)++b).data.toList=a.data.toList++10::b.data.toList:=by
   rw[ByteArray.data_append,Array.toList_append,ByteArray.data_append,Array.toList_append,VU,List.append_assoc];rfl
 have hal:(a++aP).data.toList.length=a.data.toList.length+1:=by
   rw[ByteArray.data_append,Array.toList_append,VU,List.length_append];rfl
 unfold Gp;rw[hh,Option.bind_some,PM (by rw[VU];simp only[List.length_singleton];omega),PM (by omega),adR,Option.bind_some];generalize (a++aP)++b=c at *;by_cases hu:PK c=0;rotate_left;rw[Zd hu];rfl;rw[C8.2 hu];dsimp only[cond];obtain⟨x,d,hx⟩:=cD a;obtain⟨y,e,hy⟩:=cD b;rw[hx,Option.bind_some];dsimp only;rw[hy,Option.bind_some];dsimp only
 have small:∀{s:ByteArray} {n:Nd} {ds:List Dg},Cg s=some (n,ds)->ds.length<=20:=by
   intro s n ds h;rcases Vu h with ⟨_,_,h⟩ | ⟨rfl,_⟩
   exact h;simp
 have hd:=small hx;have hey:=small hy;rw[CM (by omega)];by_cases h0:d.length+e.length=0;rotate_left;rw[Ir (by omega)];rw[Ic (by omega)];dsimp only;rcases Vu hx with ⟨h1,_⟩ | ⟨_,ks,ea,ta,rfl,ia,za,pa⟩
 exact absurd (List.eq_nil_of_length_eq_zero (by omega)) h1;rcases Vu hy with ⟨h1,_⟩ | ⟨_,QX,eb,tb,rfl,ib,zb,pb⟩
 exact absurd (List.eq_nil_of_length_eq_zero (by omega)) h1;rw[ah9 _ _ (by omega) (by omega),Option.bind_some];by_cases f1:(((DG (GF ks):Nat)):Int)<=999;rotate_left;rw[Zd f1];rw[C8.2 f1];dsimp only;rw[ah9 _ _ (by omega) (by omega),Option.bind_some];by_cases f2:(((DG (GF QX):Nat)):Int)<=999;rotate_left;rw[Zd f2];rw[C8.2 f2];dsimp only;obtain⟨W,hW,hF⟩:=adG Ii ea eb hu;obtain⟨gc,lc⟩:=Mt c;have gW:Gl W:=λu hu=>gc u (by rw[hW];exact List.mem_append_right _ hu);have lW:W.length<=2000:=by rw[hW,List.length_append] at lc;omega
 obtain⟨r,hr⟩:=mQ (en:=((c.data.toList.length:Nat):Int)) (W.length+1) W [] [] gW (by omega) (Nat.lt_succ_self _);obtain⟨r1,r2⟩:=uV _ _ hF .nil rfl tb hr;dsimp only at r1 r2;have r1:=akD r1;have bO:r.2=[]:=List.map_eq_nil_iff.1 r2.symm;have acc:=ahb _ _ ks [] [] _ hr;rw[List.append_nil,r1,bO] at acc;have cat:=ahc (en':=((c.data.toList.length:Nat):Int)) _ (W.length+1) _ _ _ _ (by rw[<- hW];exact gc) (by rw[<- hW];omega) ta acc;rw[<- hW] at cat;obtain⟨ks3,ds3,c1,c2,c3,c4,c5,c6⟩:=qM hu;have OX:=adH cat c1;simp only[Prod.mk.injEq] at OX;obtain⟨e1,e2⟩:=OX;subst e2;have zr:∀l:List Nd,DG (GF l)=1+Gk l:=λ_=>rfl;have pr:∀l:List Nd,Nh (GF l)=1+UK l:=λ_=>by simp only[GF,Nh]
 have nrr:dP (Sh (((a.data.toList.length:Nat):Int)+1)) QX r.1:=(uV _ _ hF .nil rfl tb hr).1;have rz:=akE nrr;rw[r1] at rz;rw[zr,pr] at *
 have apH:vS ks3 []=(GF ks3,[]):=by
   unfold vS acb;rw[<- e1,zr,pr,QP,ae5,<- rz.1,<- rz.2.1,if_neg (by omega)]
 rw[c2,apH,Option.bind_some];dsimp only;have hl1:=MJ ks;have fG:=MJ QX;have hob:=aha b;have hgb:=Mt b;have ajR:=alq _ _ _ _ hob.1 hob.2 (λk hk=>(by cases hk)) tb rfl hgb.1 (by omega);dsimp only at ajR;have lbb:=(Vn _ eb).1;have laa:=(Vn _ ea).1
 have or2:∀(n:Nd),UL ((b.data.toList.length:Nat):Int) n->UL 1000000 n:=by
   intro n;refine Wd (p:=λn=>UL ((b.data.toList.length:Nat):Int) n->UL 1000000 n) (λn ih h=>?_) n;obtain⟨o1,o2⟩:=(Kh n).1 h;exact(Kh n).2 ⟨by omega,λk hk=>⟨(o2 k hk).1,ih k hk (o2 k hk).2⟩⟩
 have Kr:I0 (GF QX) (Bt ((a.data.toList.length:Nat):Int) 1)=some (mC (((a.data.toList.length:Nat):Int)+1) (GF QX)):=by
   rw[CM (by omega)];exact yG (by omega) (by rw[zr];omega) ((Kh _).2 ⟨by show(0:Int)<=1000000;decide,λk hk=>⟨(ajR k hk).1,or2 k (ajR k hk).2⟩⟩) (Int.le_refl _)
 have hsk:(mC (((a.data.toList.length:Nat):Int)+1) (GF QX)).kids=QX.map (mC (((a.data.toList.length:Nat):Int)+1)):=by rw[adb];rfl
 have hka:(GF ks).kids=ks:=rfl;have hlm:(QX.map (mC (((a.data.toList.length:Nat):Int)+1))).length=QX.length:=List.length_map _
 have TM:∀l,l=ks3->(Gv (GF ks3) ⟨1,ByteArray.empty,ByteArray.empty,0,0,0,0,(⟨0,[]⟩:Fn),l,0⟩)=some true:=by
   rintro l rfl;exact acX (by rw[zr];omega) c6
 rw[Kr,hka,Fl (by simp only[List.length_nil];omega)];have h00:CZ ((([]:List Dg).length:Nat):Int) 0=true:=JS (by simp);by_cases hk0:ks.length=0;have:ks=[]:=List.eq_nil_of_length_eq_zero hk0;subst this;rw[JS (by simp)];dsimp only[cond];rw[Option.bind_some,hsk,Fl (by simp only[List.length_nil];omega),hlm];by_cases fF:QX.length=0;rw[JS (by omega),h00];dsimp only;have:QX=[]:=List.eq_nil_of_length_eq_zero fF;rw[TM [] (by rw[<- e1,this];rfl)];rfl;rw[K9 (by omega),h00];dsimp only;rw[TM _ e1];rfl;rw[K9 (by omega)];dsimp only[cond];rw[Option.bind_some,hsk,Fl (by simp only[List.nil_append];omega),hlm];by_cases fF:QX.length=0;rw[JS (by omega),h00];dsimp only;have:QX=[]:=List.eq_nil_of_length_eq_zero fF;rw[TM _ (by rw[<- e1,this,List.nil_append];simp)];rfl;rw[K9 (by omega),h00];dsimp only;rw[TM _ (by rw[List.nil_append];exact e1)];rfl
end Mo
end Go.Proofs.YtpbkhogolfegfaaGreatDoor
namespace Go.Proofs.YtpbkhogolfegfaaGreatDoor
open AI Go
namespace Mo
def YH(a b:ByteArray)(ha:a.data.toList.length<=140737488351232)(hb:b.data.toList.length<=140737488351232):Gp a b=some true:=Xo wV a b ha hb
end Mo
end Go.Proofs.YtpbkhogolfegfaaGreatDoor
