/- Part of a proof: see the last text. -/
import Derived.Test.YtkfplcngmiljaaaGreatDoorUmg
import Derived.Test.YtkfplcngmiljaaaGreatDoorProg
import Derived.KernelRfl
set_option linter.unusedVariables false
set_option linter.unusedSimpArgs false
namespace Go.Proofs.YtkfplcngmiljaaaGreatDoor
open AI Go
namespace Hd
def G:AN:=fun _=>none
theorem mixed:Tryz.prog.follows .mixedOrders=true:=by kernel_rfl
theorem Aa (g:Nat) (cs:List AV) (h:G g=some cs):A6 cs=true:=by cases h
end Hd
end Go.Proofs.YtkfplcngmiljaaaGreatDoor
namespace Go.Proofs.YtkfplcngmiljaaaGreatDoor
open AI Go
namespace Mo
noncomputable abbrev P:Program:=Tryz.prog
abbrev G:AN:=Hd.G
noncomputable abbrev X:Mh:=XS P G
variable {G0:AN}
theorem GD {i n:Nat} (h:i < n):F4 ((i:Nat):Int) ((n:Nat):Int)=true:=by rw [Kh];simp;exact h
theorem Kz {i n:Nat} (h:n≤i):F4 ((i:Nat):Int) ((n:Nat):Int)=false:=by rw [Kh];simp;omega
theorem GV {a b:Int} (h:Bq a b=true):a=b:=by rw [J2] at h;simpa using h
theorem N0 {a b:Int} (h:F4 a b=true):a < b:=by rw [Kh] at h;exact of_decide_eq_true h
theorem Yc {a b:Int} (h:F4 a b=false):b≤a:=by rw [Kh] at h;have:=of_decide_eq_false h;omega
theorem Ae {β:Type} {b:Bool} {t f:Option β} {r:β} {X:Prop} (h1:b=true→t=some r→X) (h2:b=false→f=some r→X):cond b t f=some r→X:=fun h=>(wV h).elim (fun x=>h1 x.1 x.2) fun x=>h2 x.1 x.2
theorem Ah {β κ:Type} {m:Option κ} {k:κ→Option β} {r:β} {X:Prop} (h1:∀ y,m=some y→k y=some r→X):m.bind k=some r→X:=fun h=>(Su h).elim fun y x=>h1 y x.1 x.2
theorem Z0 {β:Type} {n:Nat} {x:Option β} {r:β} {X:Prop} (h1:n≤100000000→x=some r→X):SY n x=some r→X:=fun h=>h1 (iL h).1 (iL h).2
theorem pY {β:Type} {r:β} {X:Prop}:(none:Option β)=some r→X:=fun h=>nomatch h
theorem iJ {a b:Int} (h:a≠b):Bq a b=false:=by rw [J2];simpa using h
theorem tL {a b:Int} (h:a < b):F4 a b=true:=by rw [Kh];exact decide_eq_true h
theorem hN {a b:Int} (h:b≤a):F4 a b=false:=by rw [Kh];exact decide_eq_false (by omega)
def fq {n m:Nat} {a:AV} (h:plain a=true):FP n m:=⟨a,a,.plain h⟩
def fbp {n m:Nat} (a:List AV) (h:A6 a=true):FB n m:=⟨.cells a,.cells a,.cells (.plain h)⟩
theorem tC {n:Nat} {l:List AV} (h:A6 l=true):plain (.sl .lost n l)=true:=by simp only [plain,h];rfl
theorem LW {n:Nat} {l:List AV} (h:A6 l=true):plain (.sl .full n l)=true:=by simp only [plain,h];rfl
theorem IQ {n m r sz k:Nat} {l:List AV} (h:decide (r < m)=true) (t:CC n m l=true):under n m (.sl (.row r sz) k l)=true:=by simp only [under,h,t];rfl
theorem wI {n m:Nat} {f:Go.Fn} {a l:List AV} (h:CC n m a=true) (k:CC n m l=true):under n m (.fn f a l)=true:=by simp only [under,h,k];rfl
def inC (x:Int):List AV:=[.sc (.int .i64 x)]
def IW (x:ByteArray):List AV:=[.sc (.string x)]
theorem Bc:KM IW (rows IW) 1:=⟨fun _=>rfl,fun _=>rfl,fun _=>rfl⟩
structure Pc where
 fr:Int
 att:Int
 slope:Int
def El (x:Pc):List AV:=[.sc (.int .i64 x.fr),.sc (.int .i64 x.att),.sc (.int .i64 x.slope)]
theorem CS:KM El (rows El) 3:=⟨fun _=>rfl,fun _=>rfl,fun x=>(A2 rfl (A2 rfl (A2 rfl rfl)))⟩
structure Fn where
 den:Int
 ps:(List Pc)
def XA (x:Fn):List AV:=[.sc (.int .i64 x.den),.sl .lost x.ps.length (rows El x.ps)]
theorem O7:KM XA (rows XA) 2:=⟨fun _=>rfl,fun _=>rfl,fun x=>(A2 rfl (A2 (CS.B9 x.ps) rfl))⟩
structure Nd where
 kind:Int
 name:ByteArray
 unit:ByteArray
 n:Int
 fr:Int
 to:Int
 known:Int
 tab:Fn
 kids:(List Nd)
 att:Int
mutual
def uN:Nd→List AV
 | ⟨kind,name,unit,n,fr,to,known,tab,kids,att⟩=>[.sc (.int .i64 kind),.sc (.string name),.sc (.string unit),.sc (.int .i64 n),.sc (.int .i64 fr),.sc (.int .i64 to),.sc (.int .i64 known),.sc (.int .i64 tab.den),.sl .lost tab.ps.length (rows El tab.ps),.sl .lost kids.length (Ba kids),.sc (.int .i64 att)]
def Ba:List Nd→List AV
 | []=>[]
 | k::ks=>uN k++Ba ks
end
def Bl (x:Nd):List AV:=[.sc (.int .i64 x.kind),.sc (.string x.name),.sc (.string x.unit),.sc (.int .i64 x.n),.sc (.int .i64 x.fr),.sc (.int .i64 x.to),.sc (.int .i64 x.known),.sc (.int .i64 x.tab.den),.sl .lost x.tab.ps.length (rows El x.tab.ps),.sl .lost x.kids.length (Ba x.kids),.sc (.int .i64 x.att)]
theorem X8 (x:Nd):uN x=Bl x:=by cases x;rfl
theorem Vu (l:List Nd):Ba l=rows Bl l:=by
 induction l with
 | nil=>rfl
 | cons k ks ih=>rw [Gz,Ba,ih,X8]
mutual
theorem YQ:∀ x:Nd,A6 (uN x)=true
 | ⟨kind,name,unit,n,fr,to,known,tab,kids,att⟩=>by rw [uN];exact (A2 rfl (A2 rfl (A2 rfl (A2 rfl (A2 rfl (A2 rfl (A2 rfl (A2 rfl (A2 (CS.B9 tab.ps) (A2 (tC (VO kids)) (A2 rfl rfl)))))))))))
theorem VO:∀ l:List Nd,A6 (Ba l)=true
 | []=>rfl
 | k::ks=>by rw [Ba];exact iR (YQ k) (VO ks)
end
theorem Al:KM Bl Ba 11:=⟨Vu,fun _=>rfl,fun x=>by rw [← X8];exact YQ x⟩
structure Ex where
 op:Int
 n:Int
 unit:ByteArray
 tab:Fn
 kids:(List Ex)
mutual
def xD:Ex→List AV
 | ⟨op,n,unit,tab,kids⟩=>[.sc (.int .i64 op),.sc (.int .i64 n),.sc (.string unit),.sc (.int .i64 tab.den),.sl .lost tab.ps.length (rows El tab.ps),.sl .lost kids.length (cJ kids)]
def cJ:List Ex→List AV
 | []=>[]
 | k::ks=>xD k++cJ ks
end
mutual
theorem lD:∀ x:Ex,A6 (xD x)=true
 | ⟨op,n,unit,tab,kids⟩=>by rw [xD];exact (A2 rfl (A2 rfl (A2 rfl (A2 rfl (A2 (CS.B9 tab.ps) (A2 (tC (Vl kids)) rfl))))))
theorem Vl:∀ l:List Ex,A6 (cJ l)=true
 | []=>rfl
 | k::ks=>by rw [cJ];exact iR (lD k) (Vl ks)
end
structure Ar where
 number:Int
 line:Int
 rank:Int
 fr:Int
 to:Int
 known:Int
 wh:(List Ex)
 un:(List Int)
 am:Ex
structure Dc where
 name:ByteArray
 unit:ByteArray
 role:Int
structure Co where
 facts:(List Dc)
 lines:(List Dc)
 arts:(List Ar)
structure Tk where
 kind:Int
 text:ByteArray
 att:Int
structure Dg where
 err:Int
 att:Int
def BV (x:Dg):List AV:=[.sc (.int .i64 x.err),.sc (.int .i64 x.att)]
theorem AF:KM BV (rows BV) 2:=⟨fun _=>rfl,fun _=>rfl,fun x=>(A2 rfl (A2 rfl rfl))⟩
structure Ps where
 l:(List Tk)
 at_:Int
 end_:Int
 err:Int
 errAt:Int
structure Ck where
 nodes:Int
def Fj (x:Ck):List AV:=[.sc (.int .i64 x.nodes)]
theorem KD:KM Fj (rows Fj) 1:=⟨fun _=>rfl,fun _=>rfl,fun x=>(A2 rfl rfl)⟩
structure Cq where
 src:Nd
 diags:(List Dg)
def GQ (r0:Nat) (x:Cq):List AV:=[.sc (.int .i64 x.src.kind),.sc (.string x.src.name),.sc (.string x.src.unit),.sc (.int .i64 x.src.n),.sc (.int .i64 x.src.fr),.sc (.int .i64 x.src.to),.sc (.int .i64 x.src.known),.sc (.int .i64 x.src.tab.den),.sl .lost x.src.tab.ps.length (rows El x.src.tab.ps),.sl .lost x.src.kids.length (Ba x.src.kids),.sc (.int .i64 x.src.att),.sl (.row r0 2) x.diags.length (rows BV x.diags)]
theorem K6 {k j:Nat} {ρ σ:Nat→Nat} {r0:Nat} (x:Cq) (h0:r0 < j):Mk k j ρ σ (GQ r0 x) (GQ (σ r0) x):=(.cons (.pl rfl) (.cons (.pl rfl) (.cons (.pl rfl) (.cons (.pl rfl) (.cons (.pl rfl) (.cons (.pl rfl) (.cons (.pl rfl) (.cons (.pl rfl) (.cons (.pl (CS.B9 x.src.tab.ps)) (.cons (.pl (Al.B9 x.src.kids)) (.cons (.pl rfl) (.cons (.row h0 (AF.A2 x.diags)) .nil))))))))))))
theorem F5 {n m:Nat} {r0:Nat} {x:Cq} (h0:decide (r0 < m)=true):CC n m (GQ r0 x)=true:=(A5 (Am _ _ rfl) (A5 (Am _ _ rfl) (A5 (Am _ _ rfl) (A5 (Am _ _ rfl) (A5 (Am _ _ rfl) (A5 (Am _ _ rfl) (A5 (Am _ _ rfl) (A5 (Am _ _ rfl) (A5 (Am _ _ (CS.B9 x.src.tab.ps)) (A5 (Am _ _ (Al.B9 x.src.kids)) (A5 (Am _ _ rfl) (A5 (IQ h0 (AJ _ _ (AF.A2 x.diags))) rfl))))))))))))
structure Ft where
 codex:Co
 lines:(Mm Int Int)
 nodes:Int
structure Sc where
 facts:(Mm ByteArray ByteArray)
 lines:(Mm ByteArray ByteArray)
 Ai:(Mm Int ByteArray)
structure Tr where
 codex:Co
 facts:(Mm ByteArray Int)
 lines:(Mm ByteArray Int)
 Ai:(Mm Int Int)
theorem u22:P.underlying 22=some (.slice 80):=by kernel_rfl
theorem yF:(P.info? 80).map (·.size)=some 3:=by kernel_rfl
theorem T3 (own:Own) {l:List Pc} {i:Nat} {x:Pc} (h:l[i]?=some x):B4 P 22 (.sl own l.length (rows El l)) (.sc (.int .i64 ((i:Nat):Int)))=some (.el (El x++rows El (l.drop (i+1)))):=CS.ix u22 yF own h
theorem ZU (own:Own) {l:List Pc} {z:Int} {x:Pc} (h:LC l z=some x):B4 P 22 (.sl own l.length (rows El l)) (.sc (.int .i64 z))=some (.el (El x++rows El (l.drop (z.toNat+1)))):=CS.xU u22 yF own h
theorem uX:P.underlying 25=some (.slice 27):=by kernel_rfl
theorem wJ:(P.info? 27).map (·.size)=some 11:=by kernel_rfl
theorem BD (own:Own) {l:List Nd} {i:Nat} {x:Nd} (h:l[i]?=some x):B4 P 25 (.sl own l.length (Ba l)) (.sc (.int .i64 ((i:Nat):Int)))=some (.el (Bl x++Ba (l.drop (i+1)))):=Al.ix uX wJ own h
theorem Q7 (own:Own) {l:List Nd} {z:Int} {x:Nd} (h:LC l z=some x):B4 P 25 (.sl own l.length (Ba l)) (.sc (.int .i64 z))=some (.el (Bl x++Ba (l.drop (z.toNat+1)))):=Al.xU uX wJ own h
theorem uS:P.underlying 30=some (.slice 53):=by kernel_rfl
theorem s53:(P.info? 53).map (·.size)=some 2:=by kernel_rfl
theorem i53:(P.info? 53).map (fun i=>(i.size,i.bytes,i.zero.map (·.cells.size)))=some (2,16,some 2):=by kernel_rfl
theorem aS (own:Own) {l:List Dg} {i:Nat} {x:Dg} (h:l[i]?=some x):B4 P 30 (.sl own l.length (rows BV l)) (.sc (.int .i64 ((i:Nat):Int)))=some (.el (BV x++rows BV (l.drop (i+1)))):=AF.ix uS s53 own h
theorem jF (own:Own) (l m:List Dg) {o:Own} {n:Nat} {ns:List AV} (hn:Wn ns (rows BV m)) (hnn:n=m.length) (ho:ns.all one=true) (hm:m.length≠0) (hlen:l.length+m.length≤100000000):Cd.ok P G0 (.Xz 30 30 own l.length (rows BV l) (.sl o n ns) 2 (l++m).length (rows BV (l++m))):=AF.Xz uS uS i53 (by decide) (by decide) own l m hn hnn ho hm hlen
theorem i5:(P.info? 5).map (fun i=>(i.size,i.bytes,i.zero.map (·.cells.size)))=some (1,1,some 1):=by kernel_rfl
theorem pQ:P.underlying 96=some (.slice 9):=by kernel_rfl
theorem s9:(P.info? 9).map (·.size)=some 1:=by kernel_rfl
theorem i9:(P.info? 9).map (fun i=>(i.size,i.bytes,i.zero.map (·.cells.size)))=some (1,16,some 1):=by kernel_rfl
theorem Ni (own:Own) {l:List ByteArray} {i:Nat} {x:ByteArray} (h:l[i]?=some x):B4 P 96 (.sl own l.length (rows IW l)) (.sc (.int .i64 ((i:Nat):Int)))=some (.el (IW x++rows IW (l.drop (i+1)))):=Bc.ix pQ s9 own h
theorem Y9 (own:Own) (l m:List ByteArray) {o:Own} {n:Nat} {ns:List AV} (hn:Wn ns (rows IW m)) (hnn:n=m.length) (ho:ns.all one=true) (hm:m.length≠0) (hlen:l.length+m.length≤100000000):Cd.ok P G0 (.Xz 96 96 own l.length (rows IW l) (.sl o n ns) 1 (l++m).length (rows IW (l++m))):=Bc.Xz pQ pQ i9 (by decide) (by decide) own l m hn hnn ho hm hlen
theorem YI {id n i:Nat} (h:i < n):B4 P 96 (.msl id 0 n) (.sc (.int .i64 ((i:Nat):Int)))=some (.ptr id (0+i*1)):=Bc.x6 pQ s9 h
theorem No {id n i:Nat} {z:Int} (h:L9 n z=some i):B4 P 96 (.msl id 0 n) (.sc (.int .i64 z))=some (.ptr id (0+i*1)):=Bc.wO pQ s9 h
theorem Oe {l:List ByteArray} {i:Nat} {x:ByteArray} (h:l[i]?=some x):Cd.ok P G0 (.ldB (.cells (rows IW l)) 9 (0+i*1) (.sc (.string x))):=Bc.ld1 (by kernel_rfl) s9 h rfl
theorem rX {l:List ByteArray} {i:Nat} {x:ByteArray} (h:l[i]?=some x) (y:ByteArray):Cd.ok P G0 (.stB (.cells (rows IW l)) 9 (0+i*1) (.sc (.string y)) (.cells (rows IW (l.set i y)))):=Bc.st s9 h y rfl rfl
theorem rP {n:Nat} (hn:n≤16777216):Cd.ok P G0 (.mkB 96 (.sc (.int .i64 ((n:Nat):Int))) (.sc (.int .i64 ((n:Nat):Int))) n (.cells (rows IW (List.replicate n ByteArray.empty)))):=Bc.made pQ (by kernel_rfl) (by decide) hn
def lA (x y:Int):Int:=IntKind.i64.wrap (x.tdiv y)
def oT (x y:Int):Int:=x.tmod y
def Yu (x y:Int):Option Int:=if y=0 then none else some (lA x y)
def Qz (x y:Int):Option Int:=if y=0 then none else some (oT x y)
def Ku {α:Type} (s:List α) (l h:Int):Option (List α):=if 0≤l∧l≤h∧h≤((s.length:Nat):Int) then some ((s.drop l.toNat).take (h.toNat - l.toNat)) else none
theorem ZT (z:Int) (h:0≤z):KE (.sc (.int .i64 z))=some z.toNat:=by unfold KE;simp [h]
theorem aR {a b c:Int} (h:Yu a b=some c) (x y:Operand):Hq P .quo 3 x y (.sc (.int .i64 a)) (.sc (.int .i64 b))=some (.sc (.int .i64 c)):=by
 unfold Yu at h
 split at h
 · cases h
 · rename_i hb
   cases h
   simp [Hq,LO,M4,eqGuard,binOp,Op.intDiv,hb,AI.pv,Qt,scalar,lA,Bind.bind,Sem.bind,Pure.pure]
theorem SH {a b c:Int} (h:Qz a b=some c) (x y:Operand):Hq P .rem 3 x y (.sc (.int .i64 a)) (.sc (.int .i64 b))=some (.sc (.int .i64 c)):=by
 unfold Qz at h
 split at h
 · cases h
 · rename_i hb
   cases h
   simp [Hq,LO,M4,eqGuard,binOp,Op.intDiv,hb,AI.pv,Qt,scalar,oT,Bind.bind,Sem.bind,Pure.pure]
theorem us9:P.underlying 9=some .string:=by kernel_rfl
theorem J8 {s:ByteArray} {i:Nat} {c:UInt8} (h:s.data.toList[i]?=some c):Ht P 9 (.sc (.string s)) (.sc (.int .i64 ((i:Nat):Int)))=some (.sc (.int .u8 ((c.toNat:Nat):Int))):=by
 unfold Ht
 rw [us9,ZT _ (by omega)]
 simp only [Int.toNat_natCast,h]
theorem cK (l h:Nat) {s:List Nd} (h1:l≤h) (h2:h≤s.length) (lo hi:Option AV) (e1:JC 0 lo=some l) (e2:JC s.length hi=some h):IU P 25 (.sl .lost s.length (Ba s)) lo hi none=some (.sl .lost ((s.drop l).take (h - l)).length (Ba ((s.drop l).take (h - l)))):=Al.sub uX wJ l h h1 h2 lo hi e1 e2
theorem GI {s v:List Nd} {l:Int} (e:Ku s l ((s.length:Nat):Int)=some v):IU P 25 (.sl .lost s.length (Ba s)) (some (.sc (.int .i64 l))) (none) none=some (.sl .lost v.length (Ba v)):=by
 unfold Ku at e
 split at e
 · rename_i hc
   cases e
   exact cK _ _ (by omega) (by omega) _ _ (ZT l hc.1) rfl
 · cases e
def NF (x y:Pc):Bool:=x.fr == y.fr&&(x.att == y.att&&(x.slope == y.slope))
theorem Uw (x y:Pc):QB [.int .i64 x.fr,.int .i64 x.att,.int .i64 x.slope] [.int .i64 y.fr,.int .i64 y.att,.int .i64 y.slope]=some (NF x y):=by
 simp only [QB,lX,NF,if_true,Option.bind_some]
 cases (x.fr == y.fr)<;>cases (x.att == y.att)<;>cases (x.slope == y.slope)<;>rfl
theorem kH:Flat P 80 [1,1,1]:=⟨by kernel_rfl,by kernel_rfl,by kernel_rfl,by kernel_rfl,by kernel_rfl,by kernel_rfl⟩
theorem gY {x y:Pc} {b:Bool} (h:NF x y=b) (ox oy:Operand):Hq P .neq 80 ox oy (.agg (El x)) (.agg (El y))=some (.sc (.bool (!b))):=by
 subst h
 exact (kH.bin (us:=[.int .i64 x.fr,.int .i64 x.att,.int .i64 x.slope]) (vs:=[.int .i64 y.fr,.int .i64 y.att,.int .i64 y.slope]) ⟨.inl ⟨_,rfl,rfl⟩,⟨.inl ⟨_,rfl,rfl⟩,⟨.inl ⟨_,rfl,rfl⟩,trivial⟩⟩⟩ ⟨.inl ⟨_,rfl,rfl⟩,⟨.inl ⟨_,rfl,rfl⟩,⟨.inl ⟨_,rfl,rfl⟩,trivial⟩⟩⟩ (Uw x y) ox oy).2
def NB (x y:Dg):Bool:=x.err == y.err&&(x.att == y.att)
theorem UO (x y:Dg):QB [.int .i64 x.err,.int .i64 x.att] [.int .i64 y.err,.int .i64 y.att]=some (NB x y):=by
 simp only [QB,lX,NB,if_true,Option.bind_some]
 cases (x.err == y.err)<;>cases (x.att == y.att)<;>rfl
theorem oR:Flat P 53 [1,1]:=⟨by kernel_rfl,by kernel_rfl,by kernel_rfl,by kernel_rfl,by kernel_rfl,by kernel_rfl⟩
theorem gW {x y:Dg} {b:Bool} (h:NB x y=b) (ox oy:Operand):Hq P .neq 53 ox oy (.agg (BV x)) (.agg (BV y))=some (.sc (.bool (!b))):=by
 subst h
 exact (oR.bin (us:=[.int .i64 x.err,.int .i64 x.att]) (vs:=[.int .i64 y.err,.int .i64 y.att]) ⟨.inl ⟨_,rfl,rfl⟩,⟨.inl ⟨_,rfl,rfl⟩,trivial⟩⟩ ⟨.inl ⟨_,rfl,rfl⟩,⟨.inl ⟨_,rfl,rfl⟩,trivial⟩⟩ (UO x y) ox oy).2
def Bh (m:Mm ByteArray ByteArray):AK:=mB (fun n=>.string n) (fun n=>.sc (.string n)) m
def AU {n l:Nat} (m:Mm ByteArray ByteArray):FO n l:=some ⟨Bh m,Bh m,Kr fun _=>rfl⟩
theorem nB:P.underlying 40=some (.map 9 9):=by kernel_rfl
theorem kL:P.underlying 9=some (.string):=by kernel_rfl
theorem qX:FD P 9=some (.sc (.string ByteArray.empty)):=by kernel_rfl
theorem c7 (m:Mm ByteArray ByteArray) (k:ByteArray):Cd.ok P G0 (.lkB (Bh m) 40 (.sc (.string k)) false (.sc (.string ((m.get k).getD ByteArray.empty)))):=VY (vv:=(fun n=>.sc (.string n))) nB kL ZB (z:=ByteArray.empty) qX m k
theorem Pk (m:Mm ByteArray ByteArray) (k:ByteArray) {b:Bool} (h:(m.get k).isSome=b):Cd.ok P G0 (.lkB (Bh m) 40 (.sc (.string k)) true (.A9 [.sc (.string ((m.get k).getD ByteArray.empty)),.sc (.bool b)])):=Ys (vv:=(fun n=>.sc (.string n))) nB kL ZB (z:=ByteArray.empty) qX m k h
theorem rU (m:Mm ByteArray ByteArray) (k:ByteArray) (v:ByteArray):Cd.ok P G0 (.msB (Bh m) 40 (.sc (.string k)) (.sc (.string v)) (Bh (m.set k v))):=VA (vv:=(fun n=>.sc (.string n))) nB kL ZB m k v
def C0 (m:Mm Int ByteArray):AK:=mB (fun n=>.int .i64 n) (fun n=>.sc (.string n)) m
def BP {n l:Nat} (m:Mm Int ByteArray):FO n l:=some ⟨C0 m,C0 m,Kr fun _=>rfl⟩
theorem kY:P.underlying 58=some (.map 3 9):=by kernel_rfl
theorem oY:P.underlying 3=some ((.int .i64)):=by kernel_rfl
theorem s5:FD P 9=some (.sc (.string ByteArray.empty)):=by kernel_rfl
theorem oM (m:Mm Int ByteArray) (k:Int):Cd.ok P G0 (.lkB (C0 m) 58 (.sc (.int .i64 k)) false (.sc (.string ((m.get k).getD ByteArray.empty)))):=VY (vv:=(fun n=>.sc (.string n))) kY oY Yf (z:=ByteArray.empty) s5 m k
theorem VW (m:Mm Int ByteArray) (k:Int) {b:Bool} (h:(m.get k).isSome=b):Cd.ok P G0 (.lkB (C0 m) 58 (.sc (.int .i64 k)) true (.A9 [.sc (.string ((m.get k).getD ByteArray.empty)),.sc (.bool b)])):=Ys (vv:=(fun n=>.sc (.string n))) kY oY Yf (z:=ByteArray.empty) s5 m k h
theorem xL (m:Mm Int ByteArray) (k:Int) (v:ByteArray):Cd.ok P G0 (.msB (C0 m) 58 (.sc (.int .i64 k)) (.sc (.string v)) (C0 (m.set k v))):=VA (vv:=(fun n=>.sc (.string n))) kY oY Yf m k v
def Va (m:Mm Int Int):AK:=mB (fun n=>.int .i64 n) (fun n=>.sc (.int .i64 n)) m
def LP {n l:Nat} (m:Mm Int Int):FO n l:=some ⟨Va m,Va m,Kr fun _=>rfl⟩
theorem jD:P.underlying 100=some (.map 3 3):=by kernel_rfl
theorem jG:P.underlying 3=some ((.int .i64)):=by kernel_rfl
theorem tJ:FD P 3=some (.sc (.int .i64 0)):=by kernel_rfl
theorem XG (m:Mm Int Int) (k:Int):Cd.ok P G0 (.lkB (Va m) 100 (.sc (.int .i64 k)) false (.sc (.int .i64 ((m.get k).getD 0)))):=VY (vv:=(fun n=>.sc (.int .i64 n))) jD jG Yf (z:=0) tJ m k
theorem sB (m:Mm Int Int) (k:Int) (v:Int):Cd.ok P G0 (.msB (Va m) 100 (.sc (.int .i64 k)) (.sc (.int .i64 v)) (Va (m.set k v))):=VA (vv:=(fun n=>.sc (.int .i64 n))) jD jG Yf m k v
def RM (m:Mm ByteArray Bool):AK:=mB (fun n=>.string n) (fun n=>.sc (.bool n)) m
def Gx {n l:Nat} (m:Mm ByteArray Bool):FO n l:=some ⟨RM m,RM m,Kr fun _=>rfl⟩
theorem hO:P.underlying 101=some (.map 9 4):=by kernel_rfl
theorem gX:P.underlying 9=some (.string):=by kernel_rfl
theorem qG:FD P 4=some (.sc (.bool false)):=by kernel_rfl
theorem RH (m:Mm ByteArray Bool) (k:ByteArray) {b:Bool} (h:(m.get k).getD false=b):Cd.ok P G0 (.lkB (RM m) 101 (.sc (.string k)) false (.sc (.bool b))):=by
 subst h
 exact VY (vv:=(fun n=>.sc (.bool n))) hO gX ZB (z:=false) qG m k
theorem MV (m:Mm ByteArray Bool) (k:ByteArray) (v:Bool):Cd.ok P G0 (.msB (RM m) 101 (.sc (.string k)) (.sc (.bool v)) (RM (m.set k v))):=VA (vv:=(fun n=>.sc (.bool n))) hO gX ZB m k v
theorem p3:P.underlying 102=some (.map 3 101):=by kernel_rfl
theorem r9:P.underlying 3=some (.int .i64):=by kernel_rfl
theorem IT {es:List (Value×AV×Nat)} {cl j:Nat} {v:AV} {z:Int} (n:Int) (h:z=n) (hf:LS (.int .i64) (.int .i64 n) es 0=some (some (j,v))):Cd.ok P G0 (.lkB (.map es cl) 102 (.sc (.int .i64 z)) false v):=by
 subst h
 intro s id hg
 unfold Fe
 simp [p3,r9,Ko,hg,hf,plainKey]
theorem La {a b:ByteArray} {q:Bool} (h:some (BA a.data.toList b.data.toList)=some q) (x y:Operand):Hq P .eql 9 x y (.sc (.string a)) (.sc (.string b))=some (.sc (.bool q)):=by
 rw [← JK]
 cases h
 kernel_rfl
theorem Vm {a b:Int} {q:Bool} (h:some (F4 b a)=some q) (x y:Operand):Hq P .gtr 3 x y (.sc (.int .i64 a)) (.sc (.int .i64 b))=some (.sc (.bool q)):=by
 rw [← JK]
 cases h
 kernel_rfl
theorem sZ {a b:Int} {q:Bool} (h:some (KL a b)=some q) (x y:Operand):Hq P .leq 3 x y (.sc (.int .i64 a)) (.sc (.int .i64 b))=some (.sc (.bool q)):=by
 rw [← JK]
 cases h
 kernel_rfl
theorem jE {a b:ByteArray} {q:Bool} (h:some (!BA a.data.toList b.data.toList)=some q) (x y:Operand):Hq P .neq 9 x y (.sc (.string a)) (.sc (.string b))=some (.sc (.bool q)):=by
 rw [← JK]
 cases h
 kernel_rfl
def Hh:ByteArray:=⟨#[33,61]⟩
def Om:ByteArray:=⟨#[42]⟩
def KK:ByteArray:=⟨#[43]⟩
def NW:ByteArray:=⟨#[45]⟩
def JD:ByteArray:=⟨#[47]⟩
def On:ByteArray:=⟨#[60]⟩
def Hp:ByteArray:=⟨#[60,61]⟩
def Ij:ByteArray:=⟨#[61,61]⟩
def Li:ByteArray:=⟨#[97,109,111,117,110,116]⟩
def Iq:ByteArray:=⟨#[97,110,100]⟩
def Wt:ByteArray:=⟨#[97,114,116]⟩
def JY:ByteArray:=⟨#[97,114,116,105,99,108,101]⟩
def Tu:ByteArray:=⟨#[97,116]⟩
def Ox:ByteArray:=⟨#[100,97,121]⟩
def Lj:ByteArray:=⟨#[100,101,100,117,99,116]⟩
def Ro:ByteArray:=⟨#[101,97,114,110]⟩
def RC:ByteArray:=⟨#[102,97,99,116]⟩
def NA:ByteArray:=⟨#[102,97,108,115,101]⟩
def Nv:ByteArray:=⟨#[102,108,111,111,114]⟩
def Xg:ByteArray:=⟨#[102,111,114]⟩
def RB:ByteArray:=⟨#[102,114,111,109]⟩
def Er:ByteArray:=⟨#[103,114,101,97,116,101,115,116]⟩
def Q2:ByteArray:=⟨#[105,110,102,111]⟩
def NP:ByteArray:=⟨#[107,110,111,119,110]⟩
def Hm:ByteArray:=⟨#[108,101,97,115,116]⟩
def QG:ByteArray:=⟨#[108,105,110,101]⟩
def Wh:ByteArray:=⟨#[109,105,110]⟩
def B2:ByteArray:=⟨#[109,105,110,117,116,101,115]⟩
def Ip:ByteArray:=⟨#[109,111,110,116,104]⟩
def Xa:ByteArray:=⟨#[110,111,116]⟩
def Bj:ByteArray:=⟨#[110,117,109,98,101,114]⟩
def SO:ByteArray:=⟨#[111,114]⟩
def Rf:ByteArray:=⟨#[114,97,110,107]⟩
def NS:ByteArray:=⟨#[116,97,98,108,101]⟩
def pT:ByteArray:=⟨#[116,111]⟩
def QT:ByteArray:=⟨#[116,114,117,101]⟩
def AO:ByteArray:=⟨#[116,114,117,116,104]⟩
def Ly:ByteArray:=⟨#[117,110,108,101,115,115]⟩
def EX:ByteArray:=⟨#[119,101,101,107,100,97,121]⟩
def Rm:ByteArray:=⟨#[119,104,101,110]⟩
def Ky:ByteArray:=⟨#[121,101,97,114]⟩
end Mo
end Go.Proofs.YtkfplcngmiljaaaGreatDoor
namespace Go.Proofs.YtkfplcngmiljaaaGreatDoor
open AI Go
namespace Mo
set_option maxRecDepth 100000
set_option maxHeartbeats 4000000
def jN (x:Pc):Prop:=(-9223372036854775808≤x.fr∧x.fr≤9223372036854775807)∧(-9223372036854775808≤x.att∧x.att≤9223372036854775807)∧(-9223372036854775808≤x.slope∧x.slope≤9223372036854775807)
def cS (x:Fn):Prop:=x.ps.length≤9223372036854775807∧(∀ y∈x.ps,jN y)
mutual
def DC:Nd→Prop
 | ⟨kind,name,unit,n,fr,to,known,tab,kids,att⟩=>cS tab∧kids.length≤9223372036854775807∧T6 kids
def T6:List Nd→Prop
 | []=>True
 | k::ks=>DC k∧T6 ks
end
theorem Rg {l:List Nd}:T6 l↔∀ k∈l,DC k:=by
 induction l with
 | nil=>simp [T6]
 | cons k l ih=>simp [T6,ih]
theorem TH (x:Nd):DC x↔cS x.tab∧x.kids.length≤9223372036854775807∧∀ y∈x.kids,DC y:=by
 cases x;rw [DC,Rg]
end Mo
end Go.Proofs.YtkfplcngmiljaaaGreatDoor
