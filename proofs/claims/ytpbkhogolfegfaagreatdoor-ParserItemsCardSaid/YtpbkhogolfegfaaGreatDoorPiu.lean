/- Part of a proof: see the last text. -/
import Derived.Test.YtpbkhogolfegfaaGreatDoorPit
set_option linter.unusedVariables false
set_option linter.unusedSimpArgs false
set_option linter.defProp false
noncomputable section
namespace Go.Proofs.YtpbkhogolfegfaaGreatDoor
open AI Go LexS
namespace Mo
set_option maxRecDepth 100000
set_option maxHeartbeats 4000000
def qW(a b:List UInt8)(ha:∀x∈Dh a,x.1≠0):Dh (a++10::b)=Dh a++Sz (a.length+1) (Dh b):=by
 have Kj:DN (a++10::b) (a.length+1+DX b)=Sz (a.length+1) (Dh b):=by
   have:=Z7 (a++[10]) b (DX b);rw[List.length_append,List.length_singleton,List.append_assoc,List.singleton_append] at this;rw[this,Mh]
 rw[Mh,show DX (a++10::b)=_ from rX false a b];by_cases he:F5 false a=a.length;rw[if_pos he];have:Dh a=[]:=by rw[Mh];exact Pd _ _ (by unfold DX;omega)
 rw[this,List.nil_append];exact Kj;rw[if_neg he];have hsl:=O2 a;have hlt:DX a < a.length:=by unfold DX at hsl ⊢;omega
 have:=gF a b a.length (DX a) (by omega) hlt (by rw[<- Mh];exact ha);rw[Kj,<- Mh] at this;exact this
def Sh(d p p':Int):Prop:=p'=p+d
def lC(d:Nat):∀l:List LexS.Tok,F2 (Sh (d:Int)) (l.map IH) ((Sz d l).map IH)
 | []=>.nil
 | x::l=>.cons ⟨rfl,rfl,by show((x.2.2+d:Nat):Int)=((x.2.2:Nat):Int)+(d:Int);omega⟩ (lC d l)
def aiB{a b c:ByteArray}(hc:c.data.toList=a.data.toList++10::b.data.toList)(ha:Pp a=0)(hb:Pp b=0)(h:Pp c=0):∃W,DY c=DY a++W/\F2 (Sh ((a.data.toList.length:Nat)+1)) (DY b) W:=by
 obtain⟨_,h1,h2,_⟩:=U1 _ ha;obtain⟨_,h3,_⟩:=U1 _ hb;obtain⟨_,h5,_⟩:=U1 _ h;refine⟨(Sz (a.data.toList.length+1) (Dh b.data.toList)).map IH,?_,?_⟩;unfold DY;rw[<- h5,hc,qW _ _ h2.2,h1,List.map_append];unfold DY;rw[<- h3];have:=lC (a.data.toList.length+1) (Dh b.data.toList);rwa[show((a.data.toList.length+1:Nat):Int)=((a.data.toList.length:Nat):Int)+1 by omega] at this
section
variable {en en':Int}
def Zj:∀(q q':Nat) (l:List Tk) (ks:List Nd) (ds:List Dg) (r:List Nd×List Dg),q<=q'->I9 en q l ks ds=some r->I9 en q' l ks ds=some r:=by
 intro q
 induction q with
 | zero=>intro q' l ks ds r _ h;cases h
 | succ q ih =>
   intro q' l ks ds r hq h;obtain⟨q',rfl⟩:∃p,q'=p+1:=⟨q' - 1,by omega⟩;cases l with
   | nil=>exact h
   | cons t l =>
     unfold I9 at h ⊢;cases hc:Et ((ds.length:Nat):Int) 20 with
     | false=>rw[hc] at h;exact h
     | true =>
       rw[hc] at h;dsimp only[cond] at h ⊢;split at h;cases h;rename_i n s hi;exact ih q' _ _ _ _ (by omega) h;rename_i d s hi;exact ih q' _ _ _ _ (by omega) h
def aiC{q q':Nat}{l:List Tk}{ks:List Nd}{ds:List Dg}{r r':List Nd×List Dg}(h:I9 en q l ks ds=some r)(h':I9 en q' l ks ds=some r'):r=r':=by
 have h1:=Zj q (max q q') l ks ds r (Nat.le_max_left ..) h;have h2:=Zj q' (max q q') l ks ds r' (Nat.le_max_right ..) h';exact Option.some.inj (h1.symm.trans h2)
def aqI:∀(q:Nat) (l:List Tk) (k1 ks:List Nd) (ds:List Dg) (r:List Nd×List Dg),I9 en q l ks ds=some r->I9 en q l (k1++ks) ds=some (k1++r.1,r.2):=by
 intro q
 induction q with
 | zero=>intro l k1 ks ds r h;cases h
 | succ q ih =>
   intro l k1 ks ds r h;cases l with
   | nil=>cases h;rfl
   | cons t l =>
     unfold I9 at h ⊢;cases hc:Et ((ds.length:Nat):Int) 20 with
     | false=>rw[hc] at h;cases h;rfl
     | true =>
       rw[hc] at h;dsimp only[cond] at h ⊢;split at h;cases h;rename_i n s hi;have:=ih s k1 _ _ _ h;rw[<- List.append_assoc] at this;exact this;rename_i d s hi;exact ih _ k1 _ _ _ h
def aAD:∀(q:Nat) (l:List Tk) (ks:List Nd) (ds:List Dg) (r:List Nd×List Dg),I9 en q l ks ds=some r->ds.length<=r.2.length:=by
 intro q
 induction q with
 | zero=>intro l ks ds r h;cases h
 | succ q ih =>
   intro l ks ds r h;cases l with
   | nil=>cases h;exact Nat.le_refl _
   | cons t l =>
     unfold I9 at h;cases hd:Et ((ds.length:Nat):Int) 20 with
     | false=>rw[hd] at h;cases h;exact Nat.le_refl _
     | true =>
       rw[hd] at h;dsimp only[cond] at h;split at h;cases h;exact ih _ _ _ _ h;have:=ih _ _ _ _ h;simp only[List.length_append,List.length_singleton] at this;omega
def aqJ{w:List Tk}:∀(q q2:Nat) (l:List Tk) (ks:List Nd) (k1:List Nd) (r:List Nd×List Dg),Gl (l++w)->(l++w).length<=10000->I9 en q l ks []=some (k1,[])->I9 en' q2 w k1 []=some r->I9 en' (q+q2) (l++w) ks []=some r:=by
 intro q
 induction q with
 | zero=>intro q2 l ks k1 r _ _ h;cases h
 | succ q ih =>
   intro q2 l ks k1 r hg hl h h2;cases l with
   | nil =>
     cases h;exact Zj _ _ _ _ _ _ (by omega) h2
   | cons t l =>
     unfold I9 at h;rw[show q+1+q2=(q+q2)+1 by omega];rw[List.cons_append];unfold I9;have hc:Et ((([]:List Dg).length:Nat):Int) 20=true:=Ij (by simp);rw[hc] at h ⊢;dsimp only[cond] at h ⊢;split at h;cases h
     · rename_i n s hi
       have Yy:Gl (t::l):=λu hu=>hg u (List.mem_append_left _ hu);obtain⟨r2,s2,e2,_,_⟩:=fR (st:=true) (en:=en') (n:=(t::(l++w)).length) (by simpa using hl) (by simpa using hg) (Nat.le_refl _)
       have hl1:(t::l).length<=10000:=by rw[List.length_append] at hl;omega
       obtain⟨⟨j,hj⟩,_⟩:=L9 Yy hl1 hi;rcases Vd (S:=(·=·)) (en:=en) (en':=en') (w:=w) (b:=true) (dL (t::l)) hi (by rw[List.cons_append];exact e2) with ⟨s1,rfl,f1,q1⟩ | ⟨_,_,h3⟩
       · cases q1 with
         | l q1 =>
           rw[e2];dsimp only;rw[<- atJ q1,<- asP f1];refine ih q2 s _ k1 r ?_ ?_ h h2;intro u hu;rcases List.mem_append.1 hu with hu | hu
           rw[hj] at hu;exact hg u (List.mem_append_left _ (List.mem_of_mem_drop hu));exact hg u (List.mem_append_right _ hu);have:s.length<=(t::l).length:=by rw[hj,List.length_drop];omega
           rw[List.length_append] at hl ⊢;omega
       rcases h3 with h3 | ⟨h3,_⟩<;>cases h3
     have:=aAD _ _ _ _ _ h;simp at this
end
mutual
def lB(d:Int):Nd->Nd
 | ⟨kind,name,unit,n,fr,to,known,Cz,kids,a⟩=>⟨kind,name,unit,n,fr,to,known,Cz,shL d kids,a+d⟩
def shL(d:Int):List Nd->List Nd
 | []=>[]
 | k::ks=>lB d k::shL d ks
end
def tY(d:Int):∀l:List Nd,shL d l=l.map (lB d)
 | []=>by rw[shL];rfl
 | k::l=>by rw[shL,tY d l];rfl
def agY(d:Int)(n:Nd):lB d n=⟨n.kind,n.name,n.unit,n.n,n.fr,n.to,n.known,n.Cz,n.kids.map (lB d),n.AH+d⟩:=by cases n;rw[lB,tY]
def aDS{d:Int}{n n':Nd}(h:NR (Sh d) n n'):n'=lB d n:=by
 refine NR.rec (S:=Sh d) (motive_1:=λa b _=>b=lB d a) (motive_2:=λa b _=>b=shL d a) ?_ rfl ?_ h;intro k nm u n f t kn tb ks ks' a a' _ hs ih;rw[lB,ih,hs];intro n n' l l' _ _ h1 h2;rw[shL,h1,h2]
def ayJ{d:Int}{l l':List Nd}(h:cJ (Sh d) l l'):l'=l.map (lB d):=by
 induction l generalizing l' with
 | nil=>cases h;rfl
 | cons n l ih=>cases h with | cons h1 h2=>rw[aDS h1,ih h2];rfl
def xY{d:Int}(hd:0<=d/\d<=1000000):∀(q:Nat) (n:Nd),DB n<=q->DB n<=100000->Ur 1000000 n->0<=n.AH->Eu q n d=some (lB d n):=by
 intro q
 induction q with
 | zero=>intro n h;have:=EY n;omega
 | succ q ih =>
   intro n hq hz ho h0;have hsz:=EY n;have hl:=My n.kids;obtain⟨o1,o2⟩:=(J9 n).1 ho
   have key:∀(m:List Nd) (i:Nat) (acc:List Nd),(∀k∈m,k∈n.kids)->acc.length+m.length<=100000->CL (ρ:=Nd) (λi y x=>Ii (Eu q) d i y x) (λx=>x) m i acc=some (.inl (acc++m.map (lB d))):=by
     intro m
     induction m with
     | nil=>intro i acc _ _;simp[CL]
     | cons y m ihm =>
       intro i acc hm hc;simp only[List.length_cons] at hc;have hmy:=hm y (List.mem_cons_self ..);have hy:=LJ hmy;have oy:=o2 y hmy;rw[CL,Ii,ih y (by omega) (by omega) oy.2 (by omega),Option.bind_some,Ff (by omega),Option.bind_some];have:=ihm (i+1) (acc++[lB d y]) (λk hk=>hm k (List.mem_cons_of_mem _ hk)) (by simp only[List.length_append,List.length_singleton];omega);dsimp only[PW];rw[this,List.append_assoc];rfl
   rw[Eu,KJ,show Rt n.kids.length=λy:Option (List Nd⊕Nd)=>y from funext λy=>if_pos (by omega),List.drop_zero,key n.kids 0 [] (λ_ h=>h) (by simp only[List.length_nil];omega),agY];dsimp only[Option.bind,LZ];rw[CJ (by omega)];rfl
def xZ{d:Int}(hd:0<=d/\d<=1000000){n:Nd}(hz:DB n<=100000)(ho:Ur 1000000 n)(h0:0<=n.AH):IT n d=some (lB d n):=TH (DB n) λq hq=>xY hd q n hq hz ho h0
def yJ{l:List Nd}{i:Nat}{y:Nd}(h:l[i]?=some y):Ge (l.take (i+1))=Ge (l.take i)+DB y:=by
 rw[List.take_add_one,h,Qt];simp[Ge]
def yK(l:List Nd)(i:Nat):Ge (l.take i)<=Ge l:=by
 have:=Qt (l.take i) (l.drop i);rw[List.take_append_drop] at this;omega
def aBG:∀(n:Nat) (e:Nd) (l:Int),DB e<=n->DB e<=1000000->l<=1000000->Gv n e l=some (max 0 (min ((DB e:Nat):Int) l)):=by
 intro n
 induction n with
 | zero=>intro e l h;have:=EY e;omega
 | succ n ih =>
   intro e l hn hz hl;have hp:=EY e;have hk:=My e.kids;rw[Gv,Mq,asC];simp only[QS,L4,nG,Uw];refine⟨λh=>by omega,λh=>?_⟩;refine akP (λi x=>x=min (((1+Ge (e.kids.take i):Nat)):Int) l) (by omega) (by simp[Ge];omega) (λi y x hy hx=>?_) (λx hx=>?_);have hm:=List.mem_of_getElem? hy;have h1:=yJ hy;have h2:=yK e.kids (i+1);have h3:=LJ hm;simp only[LD,N8,L4,nG,qY,Uw,aAT,aAS];refine⟨λh4=>?_,λh4=>by omega⟩;rw[KP (by omega),ih y (l - x) (by omega) (by omega) (by omega),Uw,CJ (by omega)];omega;rw[List.take_length] at hx;rw[Uw];omega
def asQ(e:Nd)(l:Int)(h:DB e<=1000000)(hl:0<=l/\l < 1000000):Lb e l=some (mb (((DB e:Nat):Int)<=l)):=by
 have hc:PF e (l+1)=some (max 0 (min ((DB e:Nat):Int) (l+1))):=TH (DB e) λn hn=>aBG n e (l+1) hn h (by omega);rw[Lb,CJ (by omega),hc,asC];simp only[QS,L4,nG,Uw,qY,qQ,Wp];omega
def alK(l m:List Nd):Uq (l++m)=max (Uq l) (Uq m):=by
 induction l with
 | nil=>simp[Uq]
 | cons a l ih=>simp only[List.cons_append,Uq,ih];omega
def WZ(hh:J8=some true)(a b:ByteArray)(la:a.data.toList.length<=140737488351232)(lb:b.data.toList.length<=140737488351232):Gh a b=some true:=by
 have hnl:(ZZ).data.toList=[10]:=rfl
 have H9:((a++ZZ)++b).data.toList=a.data.toList++10::b.data.toList:=by
   rw[ByteArray.data_append,Array.toList_append,ByteArray.data_append,Array.toList_append,hnl,List.append_assoc];rfl
 have hal:(a++ZZ).data.toList.length=a.data.toList.length+1:=by
   rw[ByteArray.data_append,Array.toList_append,hnl,List.length_append];rfl
 unfold Gh;rw[hh,Option.bind_some,Pq (by rw[hnl];simp only[List.length_singleton];omega),Pq (by omega),aiM,Option.bind_some];generalize (a++ZZ)++b=c at *;by_cases hu:Pp c=0;rotate_left;rw[YP hu];rfl;rw[C4.2 hu];dsimp only[cond];obtain⟨x,d,hx⟩:=aX a;obtain⟨y,e,hy⟩:=aX b;rw[hx,Option.bind_some];dsimp only;rw[hy,Option.bind_some];dsimp only
 have small:∀{s:ByteArray} {n:Nd} {ds:List Dg},Cf s=some (n,ds)->ds.length<=20:=by
   intro s n ds h;rcases U7 h with ⟨_,_,h⟩ | ⟨rfl,_⟩
   exact h;simp
 have hd:=small hx;have hey:=small hy;rw[CJ (by omega)];by_cases h0:d.length+e.length=0;rotate_left;rw[Ij (by omega)];rw[H5 (by omega)];dsimp only;rcases U7 hx with ⟨h1,_⟩ | ⟨_,ks,ea,ta,rfl,ia,za,pa⟩
 exact absurd (List.eq_nil_of_length_eq_zero (by omega)) h1;rcases U7 hy with ⟨h1,_⟩ | ⟨_,QD,eb,tb,rfl,ib,zb,pb⟩
 exact absurd (List.eq_nil_of_length_eq_zero (by omega)) h1;rw[asQ _ _ (by omega) (by omega),Option.bind_some];by_cases f1:(((DB (Gw ks):Nat)):Int)<=999;rotate_left;rw[YP f1];rw[C4.2 f1];dsimp only;rw[asQ _ _ (by omega) (by omega),Option.bind_some];by_cases f2:(((DB (Gw QD):Nat)):Int)<=999;rotate_left;rw[YP f2];rw[C4.2 f2];dsimp only;obtain⟨W,hW,hF⟩:=aiB H9 ea eb hu;obtain⟨gc,lc⟩:=Mg c;have gW:Gl W:=λu hu=>gc u (by rw[hW];exact List.mem_append_right _ hu);have lW:W.length<=2000:=by rw[hW,List.length_append] at lc;omega
 obtain⟨r,hr⟩:=lP (en:=((c.data.toList.length:Nat):Int)) (W.length+1) W [] [] gW (by omega) (Nat.lt_succ_self _);obtain⟨r1,r2⟩:=uF _ _ hF .nil rfl tb hr;dsimp only at r1 r2;have r1:=ayJ r1;have hr2:r.2=[]:=List.map_eq_nil_iff.1 r2.symm;have acc:=aqI _ _ ks [] [] _ hr;rw[List.append_nil,r1,hr2] at acc;have cat:=aqJ (en':=((c.data.toList.length:Nat):Int)) _ (W.length+1) _ _ _ _ (by rw[<- hW];exact gc) (by rw[<- hW];omega) ta acc;rw[<- hW] at cat;obtain⟨ks3,ds3,c1,c2,c3,c4,c5,c6⟩:=pP hu;have OI:=aiC cat c1;simp only[Prod.mk.injEq] at OI;obtain⟨e1,e2⟩:=OI;subst e2;have zr:∀l:List Nd,DB (Gw l)=1+Ge l:=λ_=>rfl;have pr:∀l:List Nd,M3 (Gw l)=1+Uq l:=λ_=>by simp only[Gw,M3]
 have nrr:cJ (Sh (((a.data.toList.length:Nat):Int)+1)) QD r.1:=(uF _ _ hF .nil rfl tb hr).1;have rz:=ayK nrr;rw[r1] at rz;rw[zr,pr] at *
 have aJX:vH ks3 []=(Gw ks3,[]):=by
   unfold vH aeR;rw[<- e1,zr,pr,Qt,alK,<- rz.1,<- rz.2.1,if_neg (by omega)]
 rw[c2,aJX,Option.bind_some];dsimp only;have hl1:=My ks;have hl2:=My QD;have hob:=aqH b;have hgb:=Mg b;have awO:=aAF _ _ _ _ hob.1 hob.2 (λk hk=>(by cases hk)) tb rfl hgb.1 (by omega);dsimp only at awO;have lbb:=(U1 _ eb).1;have laa:=(U1 _ ea).1
 have or2:∀(n:Nd),Ur ((b.data.toList.length:Nat):Int) n->Ur 1000000 n:=by
   intro n;refine VR (p:=λn=>Ur ((b.data.toList.length:Nat):Int) n->Ur 1000000 n) (λn ih h=>?_) n;obtain⟨o1,o2⟩:=(J9 n).1 h;exact(J9 n).2 ⟨by omega,λk hk=>⟨(o2 k hk).1,ih k hk (o2 k hk).2⟩⟩
 have Kj:IT (Gw QD) (Bt ((a.data.toList.length:Nat):Int) 1)=some (lB (((a.data.toList.length:Nat):Int)+1) (Gw QD)):=by
   rw[CJ (by omega)];exact xZ (by omega) (by rw[zr];omega) ((J9 _).2 ⟨by show(0:Int)<=1000000;decide,λk hk=>⟨(awO k hk).1,or2 k (awO k hk).2⟩⟩) (Int.le_refl _)
 have hsk:(lB (((a.data.toList.length:Nat):Int)+1) (Gw QD)).kids=QD.map (lB (((a.data.toList.length:Nat):Int)+1)):=by rw[agY];rfl
 have hka:(Gw ks).kids=ks:=rfl;have hlm:(QD.map (lB (((a.data.toList.length:Nat):Int)+1))).length=QD.length:=List.length_map _
 have Tp:∀l,l=ks3->(Gp (Gw ks3) ⟨1,ByteArray.empty,ByteArray.empty,0,0,0,0,(⟨0,[]⟩:Fn),l,0⟩)=some true:=by
   rintro l rfl;exact agK (by rw[zr];omega) c6
 rw[Kj,hka,Ff (by simp only[List.length_nil];omega)];have h00:CV ((([]:List Dg).length:Nat):Int) 0=true:=JK (by simp);by_cases hk0:ks.length=0;have:ks=[]:=List.eq_nil_of_length_eq_zero hk0;subst this;rw[JK (by simp)];dsimp only[cond];rw[Option.bind_some,hsk,Ff (by simp only[List.length_nil];omega),hlm];by_cases hk2:QD.length=0;rw[JK (by omega),h00];dsimp only;have:QD=[]:=List.eq_nil_of_length_eq_zero hk2;rw[Tp [] (by rw[<- e1,this];rfl)];rfl;rw[KZ (by omega),h00];dsimp only;rw[Tp _ e1];rfl;rw[KZ (by omega)];dsimp only[cond];rw[Option.bind_some,hsk,Ff (by simp only[List.nil_append];omega),hlm];by_cases hk2:QD.length=0;rw[JK (by omega),h00];dsimp only;have:QD=[]:=List.eq_nil_of_length_eq_zero hk2;rw[Tp _ (by rw[<- e1,this,List.nil_append];simp)];rfl;rw[KZ (by omega),h00];dsimp only;rw[Tp _ (by rw[List.nil_append];exact e1)];rfl
end Mo
end Go.Proofs.YtpbkhogolfegfaaGreatDoor
namespace Go.Proofs.YtpbkhogolfegfaaGreatDoor
open AI Go
namespace Mo
def Yk(a b:ByteArray)(ha:a.data.toList.length<=140737488351232)(hb:b.data.toList.length<=140737488351232):Gh a b=some true:=WZ wM a b ha hb
end Mo
end Go.Proofs.YtpbkhogolfegfaaGreatDoor
