/- Part of a proof: see the last text. -/
import Derived.Test.YtkfplcngmiljaaaGreatDoorUog
import Derived.Test.YtkfplcngmiljaaaGreatDoorProg
import Derived.KernelRfl
set_option linter.unusedVariables false
set_option linter.unusedSimpArgs false
namespace Go.Proofs.YtkfplcngmiljaaaGreatDoor
open AI Go
namespace Hd
def G:AB:=fun _=>none
theorem mixed:Tryz.prog.follows .mixedOrders=true:=by kernel_rfl
theorem Ac (g:Nat) (cs:List AV) (h:G g=some cs):AL cs=true:=by cases h
end Hd
end Go.Proofs.YtkfplcngmiljaaaGreatDoor
namespace Go.Proofs.YtkfplcngmiljaaaGreatDoor
open AI Go
namespace Mo
noncomputable abbrev P:Program:=Tryz.prog
abbrev G:AB:=Hd.G
noncomputable abbrev X:JK:=XS P G
variable {G0:AB}
theorem Jb {i n:Nat} (h:i < n):Fx ((i:Nat):Int) ((n:Nat):Int)=true:=by rw [I7];simp;exact h
theorem Mj {i n:Nat} (h:n≤i):Fx ((i:Nat):Int) ((n:Nat):Int)=false:=by rw [I7];simp;omega
theorem FE {a b:Int} (h:DM a b=true):a=b:=by rw [JZ] at h;simpa using h
theorem Ly {a b:Int} (h:Fx a b=true):a < b:=by rw [I7] at h;exact of_decide_eq_true h
theorem XU {a b:Int} (h:Fx a b=false):b≤a:=by rw [I7] at h;have:=of_decide_eq_false h;omega
theorem Ai {β:Type} {b:Bool} {t f:Option β} {r:β} {X:Prop} (h1:b=true→t=some r→X) (h2:b=false→f=some r→X):cond b t f=some r→X:=fun h=>(tA h).elim (fun x=>h1 x.1 x.2) fun x=>h2 x.1 x.2
theorem AD {β κ:Type} {m:Option κ} {k:κ→Option β} {r:β} {X:Prop} (h1:∀ y,m=some y→k y=some r→X):m.bind k=some r→X:=fun h=>(Vu h).elim fun y x=>h1 y x.1 x.2
theorem eE {β:Type} {n:Nat} {x:Option β} {r:β} {X:Prop} (h1:n≤100000000→x=some r→X):R5 n x=some r→X:=fun h=>h1 (dP h).1 (dP h).2
theorem pJ {β:Type} {r:β} {X:Prop}:(none:Option β)=some r→X:=fun h=>nomatch h
theorem fG {a b:Int} (h:a≠b):DM a b=false:=by rw [JZ];simpa using h
theorem V8 {a b:Int} (h:a < b):Fx a b=true:=by rw [I7];exact decide_eq_true h
theorem cZ {a b:Int} (h:b≤a):Fx a b=false:=by rw [I7];exact decide_eq_false (by omega)
def fq {n m:Nat} {a:AV} (h:plain a=true):FP n m:=⟨a,a,.plain h⟩
def xT {n m:Nat} (a:List AV) (h:AL a=true):FB n m:=⟨.cells a,.cells a,.cells (.plain h)⟩
theorem nY {n:Nat} {l:List AV} (h:AL l=true):plain (.sl .lost n l)=true:=by simp only [plain,h];rfl
theorem cX {n:Nat} {l:List AV} (h:AL l=true):plain (.sl .full n l)=true:=by simp only [plain,h];rfl
theorem vL {n m:Nat} {f:Go.Fn} {a l:List AV} (h:B3 n m a=true) (k:B3 n m l=true):under n m (.fn f a l)=true:=by simp only [under,h,k];rfl
def z7 (x:Int):List AV:=[.sc (.int .i64 x)]
def Kp (x:ByteArray):List AV:=[.sc (.string x)]
theorem A7:GL Kp (rows Kp) 1:=⟨fun _=>rfl,fun _=>rfl,fun _=>rfl⟩
structure Pc where
 fr:Int
 att:Int
 slope:Int
def J4 (x:Pc):List AV:=[.sc (.int .i64 x.fr),.sc (.int .i64 x.att),.sc (.int .i64 x.slope)]
theorem F6:GL J4 (rows J4) 3:=⟨fun _=>rfl,fun _=>rfl,fun x=>(BI rfl (BI rfl (BI rfl rfl)))⟩
structure Fn where
 den:Int
 ps:(List Pc)
def YV (x:Fn):List AV:=[.sc (.int .i64 x.den),.sl .lost x.ps.length (rows J4 x.ps)]
theorem XG:GL YV (rows YV) 2:=⟨fun _=>rfl,fun _=>rfl,fun x=>(BI rfl (BI (F6.DH x.ps) rfl))⟩
structure Nd where
 kind:Int
 name:ByteArray
 unit:ByteArray
 n:Int
 fr:Int
 to:Int
 known:Int
 tab:Fn
 kids:(List Nd)
 att:Int
mutual
def sO:Nd→List AV
 | ⟨kind,name,unit,n,fr,to,known,tab,kids,att⟩=>[.sc (.int .i64 kind),.sc (.string name),.sc (.string unit),.sc (.int .i64 n),.sc (.int .i64 fr),.sc (.int .i64 to),.sc (.int .i64 known),.sc (.int .i64 tab.den),.sl .lost tab.ps.length (rows J4 tab.ps),.sl .lost kids.length (AW kids),.sc (.int .i64 att)]
def AW:List Nd→List AV
 | []=>[]
 | k::ks=>sO k++AW ks
end
def BP (x:Nd):List AV:=[.sc (.int .i64 x.kind),.sc (.string x.name),.sc (.string x.unit),.sc (.int .i64 x.n),.sc (.int .i64 x.fr),.sc (.int .i64 x.to),.sc (.int .i64 x.known),.sc (.int .i64 x.tab.den),.sl .lost x.tab.ps.length (rows J4 x.tab.ps),.sl .lost x.kids.length (AW x.kids),.sc (.int .i64 x.att)]
theorem YE (x:Nd):sO x=BP x:=by cases x;rfl
theorem ER (l:List Nd):AW l=rows BP l:=by
 induction l with
 | nil=>rfl
 | cons k ks ih=>rw [Dm,AW,ih,YE]
mutual
theorem WR:∀ x:Nd,AL (sO x)=true
 | ⟨kind,name,unit,n,fr,to,known,tab,kids,att⟩=>by rw [sO];exact (BI rfl (BI rfl (BI rfl (BI rfl (BI rfl (BI rfl (BI rfl (BI rfl (BI (F6.DH tab.ps) (BI (nY (Ub kids)) (BI rfl rfl)))))))))))
theorem Ub:∀ l:List Nd,AL (AW l)=true
 | []=>rfl
 | k::ks=>by rw [AW];exact dB (WR k) (Ub ks)
end
theorem Ay:GL BP AW 11:=⟨ER,fun _=>rfl,fun x=>by rw [← YE];exact WR x⟩
structure Ex where
 op:Int
 n:Int
 unit:ByteArray
 tab:Fn
 kids:(List Ex)
mutual
def uE:Ex→List AV
 | ⟨op,n,unit,tab,kids⟩=>[.sc (.int .i64 op),.sc (.int .i64 n),.sc (.string unit),.sc (.int .i64 tab.den),.sl .lost tab.ps.length (rows J4 tab.ps),.sl .lost kids.length (aD kids)]
def aD:List Ex→List AV
 | []=>[]
 | k::ks=>uE k++aD ks
end
mutual
theorem jU:∀ x:Ex,AL (uE x)=true
 | ⟨op,n,unit,tab,kids⟩=>by rw [uE];exact (BI rfl (BI rfl (BI rfl (BI rfl (BI (F6.DH tab.ps) (BI (nY (T5 kids)) rfl))))))
theorem T5:∀ l:List Ex,AL (aD l)=true
 | []=>rfl
 | k::ks=>by rw [aD];exact dB (jU k) (T5 ks)
end
structure Ar where
 number:Int
 line:Int
 rank:Int
 fr:Int
 to:Int
 known:Int
 wh:(List Ex)
 un:(List Int)
 am:Ex
structure Dc where
 name:ByteArray
 unit:ByteArray
 role:Int
structure Co where
 facts:(List Dc)
 lines:(List Dc)
 arts:(List Ar)
structure Tk where
 kind:Int
 text:ByteArray
 att:Int
structure Dg where
 err:Int
 att:Int
def CZ (x:Dg):List AV:=[.sc (.int .i64 x.err),.sc (.int .i64 x.att)]
theorem AM:GL CZ (rows CZ) 2:=⟨fun _=>rfl,fun _=>rfl,fun x=>(BI rfl (BI rfl rfl))⟩
structure Ps where
 l:(List Tk)
 at_:Int
 end_:Int
 err:Int
 errAt:Int
structure Ck where
 nodes:Int
def DR (x:Ck):List AV:=[.sc (.int .i64 x.nodes)]
theorem Iw:GL DR (rows DR) 1:=⟨fun _=>rfl,fun _=>rfl,fun x=>(BI rfl rfl)⟩
structure Cq where
 src:Nd
 diags:(List Dg)
structure Ft where
 codex:Co
 lines:(Mm Int Int)
 nodes:Int
structure Sc where
 facts:(Mm ByteArray ByteArray)
 lines:(Mm ByteArray ByteArray)
 Af:(Mm Int ByteArray)
structure Tr where
 codex:Co
 facts:(Mm ByteArray Int)
 lines:(Mm ByteArray Int)
 Af:(Mm Int Int)
theorem nF:P.underlying 22=some (.slice 80):=by kernel_rfl
theorem vV:(P.info? 80).map (·.size)=some 3:=by kernel_rfl
theorem i80:(P.info? 80).map (fun i=>(i.size,i.bytes,i.zero.map (·.cells.size)))=some (3,24,some 3):=by kernel_rfl
theorem SS (own:Own) {l:List Pc} {i:Nat} {x:Pc} (h:l[i]?=some x):BD P 22 (.sl own l.length (rows J4 l)) (.sc (.int .i64 ((i:Nat):Int)))=some (.el (J4 x++rows J4 (l.drop (i+1)))):=F6.ix nF vV own h
theorem qX (own:Own) {l:List Pc} {z:Int} {x:Pc} (h:UY l z=some x):BD P 22 (.sl own l.length (rows J4 l)) (.sc (.int .i64 z))=some (.el (J4 x++rows J4 (l.drop (z.toNat+1)))):=F6.zE nF vV own h
theorem vJ (own:Own) (l m:List Pc) {o:Own} (s:AS) (hm:m.length=0) (hlen:l.length+m.length≤100000000):Cd.ok P G0 (.LW s 22 22 (.sl own l.length (rows J4 l)) (.sl o m.length (rows J4 m)) (.sl own l.length (rows J4 l)) s):=F6.ga nF nF i80 (by decide) (by decide) own l m s hm hlen
theorem nZ:P.underlying 25=some (.slice 27):=by kernel_rfl
theorem uK:(P.info? 27).map (·.size)=some 11:=by kernel_rfl
theorem i27:(P.info? 27).map (fun i=>(i.size,i.bytes,i.zero.map (·.cells.size)))=some (11,136,some 11):=by kernel_rfl
theorem DT (own:Own) {l:List Nd} {i:Nat} {x:Nd} (h:l[i]?=some x):BD P 25 (.sl own l.length (AW l)) (.sc (.int .i64 ((i:Nat):Int)))=some (.el (BP x++AW (l.drop (i+1)))):=Ay.ix nZ uK own h
theorem rV (m:List Nd) {o:Own} (hm:¬ m.length=0) (hlen:m.length≤100000000):Cd.ok P G0 (.apB 25 25 (.sl .full 0 []) (.sl o m.length (AW m)) m.length (.cells (AW m))):=Ay.apm nZ nZ i27 (by decide) (by decide) (fun _=>rfl) m hm hlen
theorem tN:P.underlying 30=some (.slice 53):=by kernel_rfl
theorem s53:(P.info? 53).map (·.size)=some 2:=by kernel_rfl
theorem i53:(P.info? 53).map (fun i=>(i.size,i.bytes,i.zero.map (·.cells.size)))=some (2,16,some 2):=by kernel_rfl
theorem Xg (own:Own) {l:List Dg} {i:Nat} {x:Dg} (h:l[i]?=some x):BD P 30 (.sl own l.length (rows CZ l)) (.sc (.int .i64 ((i:Nat):Int)))=some (.el (CZ x++rows CZ (l.drop (i+1)))):=AM.ix tN s53 own h
theorem eG (own:Own) (l m:List Dg) {o:Own} {n:Nat} {ns:List AV} (hn:Wn ns (rows CZ m)) (hnn:n=m.length) (ho:ns.all one=true) (hm:m.length≠0) (hlen:l.length+m.length≤100000000):Cd.ok P G0 (.XC 30 30 own l.length (rows CZ l) (.sl o n ns) 2 (l++m).length (rows CZ (l++m))):=AM.XC tN tN i53 (by decide) (by decide) own l m hn hnn ho hm hlen
theorem i5:(P.info? 5).map (fun i=>(i.size,i.bytes,i.zero.map (·.cells.size)))=some (1,1,some 1):=by kernel_rfl
theorem tZ:P.underlying 96=some (.slice 9):=by kernel_rfl
theorem s9:(P.info? 9).map (·.size)=some 1:=by kernel_rfl
theorem eQ {id n i:Nat} (h:i < n):BD P 25 (.msl id 0 n) (.sc (.int .i64 ((i:Nat):Int)))=some (.ptr id (0+i*11)):=Ay.tD nZ uK h
theorem WZ {id n i:Nat} (h:i < n):BD P 96 (.msl id 0 n) (.sc (.int .i64 ((i:Nat):Int)))=some (.ptr id (0+i*1)):=A7.tD tZ s9 h
theorem K3 {id n i:Nat} {z:Int} (h:JH n z=some i):BD P 96 (.msl id 0 n) (.sc (.int .i64 z))=some (.ptr id (0+i*1)):=A7.vG tZ s9 h
theorem LC {l:List ByteArray} {i:Nat} {x:ByteArray} (h:l[i]?=some x):Cd.ok P G0 (.ldB (.cells (rows Kp l)) 9 (0+i*1) (.sc (.string x))):=A7.ld1 (by kernel_rfl) s9 h rfl
theorem oO {l:List ByteArray} {i:Nat} {x:ByteArray} (h:l[i]?=some x) (y:ByteArray):Cd.ok P G0 (.stB (.cells (rows Kp l)) 9 (0+i*1) (.sc (.string y)) (.cells (rows Kp (l.set i y)))):=A7.st s9 h y rfl rfl
theorem oW {n:Nat} (hn:n≤16777216):Cd.ok P G0 (.mkB 96 (.sc (.int .i64 ((n:Nat):Int))) (.sc (.int .i64 ((n:Nat):Int))) n (.cells (rows Kp (List.replicate n ByteArray.empty)))):=A7.made tZ (by kernel_rfl) (by decide) hn
def w8 (x:Int):Int:=IntKind.u8.wrap x
def oV (x y:Int):Int:=x.tmod y
def S2 (x y:Int):Option Int:=if y=0 then none else some (oV x y)
def LS {α:Type} (s:List α) (l h:Int):Option (List α):=if 0≤l∧l≤h∧h≤((s.length:Nat):Int) then some ((s.drop l.toNat).take (h.toNat - l.toNat)) else none
theorem Xh (z:Int) (h:0≤z):IA (.sc (.int .i64 z))=some z.toNat:=by unfold IA;simp [h]
theorem Tu {a b c:Int} (h:S2 a b=some c) (x y:Operand):GI P .rem 3 x y (.sc (.int .i64 a)) (.sc (.int .i64 b))=some (.sc (.int .i64 c)):=by
 unfold S2 at h
 split at h
 · cases h
 · rename_i hb
   cases h
   simp [GI,Kn,Lz,eqGuard,binOp,Op.intDiv,hb,AI.pv,Qa,scalar,oV,Bind.bind,Sem.bind,Pure.pure]
theorem us9:P.underlying 9=some .string:=by kernel_rfl
theorem N4 {s:ByteArray} {i:Nat} {c:UInt8} (h:s.data.toList[i]?=some c):Fo P 9 (.sc (.string s)) (.sc (.int .i64 ((i:Nat):Int)))=some (.sc (.int .u8 ((c.toNat:Nat):Int))):=by
 unfold Fo
 rw [us9,Xh _ (by omega)]
 simp only [Int.toNat_natCast,h]
theorem Zw (l h:Nat) {s:List Nd} (h1:l≤h) (h2:h≤s.length) (lo hi:Option AV) (e1:He 0 lo=some l) (e2:He s.length hi=some h):Gr P 25 (.sl .lost s.length (AW s)) lo hi none=some (.sl .lost ((s.drop l).take (h - l)).length (AW ((s.drop l).take (h - l)))):=Ay.sub nZ uK l h h1 h2 lo hi e1 e2
theorem Iu {s v:List Nd} {l:Int} (e:LS s l ((s.length:Nat):Int)=some v):Gr P 25 (.sl .lost s.length (AW s)) (some (.sc (.int .i64 l))) (none) none=some (.sl .lost v.length (AW v)):=by
 unfold LS at e
 split at e
 · rename_i hc
   cases e
   exact Zw _ _ (by omega) (by omega) _ _ (Xh l hc.1) rfl
 · cases e
def K8 (x y:Pc):Bool:=x.fr == y.fr&&(x.att == y.att&&(x.slope == y.slope))
theorem SO (x y:Pc):N2 [.int .i64 x.fr,.int .i64 x.att,.int .i64 x.slope] [.int .i64 y.fr,.int .i64 y.att,.int .i64 y.slope]=some (K8 x y):=by
 simp only [N2,iH,K8,if_true,Option.bind_some]
 cases (x.fr == y.fr)<;>cases (x.att == y.att)<;>cases (x.slope == y.slope)<;>rfl
theorem jM:Flat P 80 [1,1,1]:=⟨by kernel_rfl,by kernel_rfl,by kernel_rfl,by kernel_rfl,by kernel_rfl,by kernel_rfl⟩
theorem dT {x y:Pc} {b:Bool} (h:K8 x y=b) (ox oy:Operand):GI P .neq 80 ox oy (.agg (J4 x)) (.agg (J4 y))=some (.sc (.bool (!b))):=by
 subst h
 exact (jM.bin (us:=[.int .i64 x.fr,.int .i64 x.att,.int .i64 x.slope]) (vs:=[.int .i64 y.fr,.int .i64 y.att,.int .i64 y.slope]) ⟨.inl ⟨_,rfl,rfl⟩,⟨.inl ⟨_,rfl,rfl⟩,⟨.inl ⟨_,rfl,rfl⟩,trivial⟩⟩⟩ ⟨.inl ⟨_,rfl,rfl⟩,⟨.inl ⟨_,rfl,rfl⟩,⟨.inl ⟨_,rfl,rfl⟩,trivial⟩⟩⟩ (SO x y) ox oy).2
def K7 (x y:Dg):Bool:=x.err == y.err&&(x.att == y.att)
theorem Sw (x y:Dg):N2 [.int .i64 x.err,.int .i64 x.att] [.int .i64 y.err,.int .i64 y.att]=some (K7 x y):=by
 simp only [N2,iH,K7,if_true,Option.bind_some]
 cases (x.err == y.err)<;>cases (x.att == y.att)<;>rfl
theorem gP:Flat P 53 [1,1]:=⟨by kernel_rfl,by kernel_rfl,by kernel_rfl,by kernel_rfl,by kernel_rfl,by kernel_rfl⟩
theorem eA {x y:Dg} {b:Bool} (h:K7 x y=b) (ox oy:Operand):GI P .neq 53 ox oy (.agg (CZ x)) (.agg (CZ y))=some (.sc (.bool (!b))):=by
 subst h
 exact (gP.bin (us:=[.int .i64 x.err,.int .i64 x.att]) (vs:=[.int .i64 y.err,.int .i64 y.att]) ⟨.inl ⟨_,rfl,rfl⟩,⟨.inl ⟨_,rfl,rfl⟩,trivial⟩⟩ ⟨.inl ⟨_,rfl,rfl⟩,⟨.inl ⟨_,rfl,rfl⟩,trivial⟩⟩ (Sw x y) ox oy).2
def AU (m:Mm ByteArray ByteArray):Ap:=mB (fun n=>.string n) (fun n=>.sc (.string n)) m
def AJ {n l:Nat} (m:Mm ByteArray ByteArray):FO n l:=some ⟨AU m,AU m,Ij fun _=>rfl⟩
theorem kI:P.underlying 40=some (.map 9 9):=by kernel_rfl
theorem jY:P.underlying 9=some (.string):=by kernel_rfl
theorem qV:D6 P 9=some (.sc (.string ByteArray.empty)):=by kernel_rfl
theorem Y5 (m:Mm ByteArray ByteArray) (k:ByteArray):Cd.ok P G0 (.lkB (AU m) 40 (.sc (.string k)) false (.sc (.string ((m.get k).getD ByteArray.empty)))):=Ua (vv:=(fun n=>.sc (.string n))) kI jY W1 (z:=ByteArray.empty) qV m k
theorem NH (m:Mm ByteArray ByteArray) (k:ByteArray) {b:Bool} (h:(m.get k).isSome=b):Cd.ok P G0 (.lkB (AU m) 40 (.sc (.string k)) true (.Bc [.sc (.string ((m.get k).getD ByteArray.empty)),.sc (.bool b)])):=Ys (vv:=(fun n=>.sc (.string n))) kI jY W1 (z:=ByteArray.empty) qV m k h
theorem sG (m:Mm ByteArray ByteArray) (k:ByteArray) (v:ByteArray):Cd.ok P G0 (.msB (AU m) 40 (.sc (.string k)) (.sc (.string v)) (AU (m.set k v))):=Tv (vv:=(fun n=>.sc (.string n))) kI jY W1 m k v
def B7 (m:Mm Int ByteArray):Ap:=mB (fun n=>.int .i64 n) (fun n=>.sc (.string n)) m
def Bm {n l:Nat} (m:Mm Int ByteArray):FO n l:=some ⟨B7 m,B7 m,Ij fun _=>rfl⟩
theorem kB:P.underlying 58=some (.map 3 9):=by kernel_rfl
theorem kJ:P.underlying 3=some ((.int .i64)):=by kernel_rfl
theorem qI:D6 P 9=some (.sc (.string ByteArray.empty)):=by kernel_rfl
theorem iA (m:Mm Int ByteArray) (k:Int):Cd.ok P G0 (.lkB (B7 m) 58 (.sc (.int .i64 k)) false (.sc (.string ((m.get k).getD ByteArray.empty)))):=Ua (vv:=(fun n=>.sc (.string n))) kB kJ Xm (z:=ByteArray.empty) qI m k
theorem Uf (m:Mm Int ByteArray) (k:Int) {b:Bool} (h:(m.get k).isSome=b):Cd.ok P G0 (.lkB (B7 m) 58 (.sc (.int .i64 k)) true (.Bc [.sc (.string ((m.get k).getD ByteArray.empty)),.sc (.bool b)])):=Ys (vv:=(fun n=>.sc (.string n))) kB kJ Xm (z:=ByteArray.empty) qI m k h
theorem vQ (m:Mm Int ByteArray) (k:Int) (v:ByteArray):Cd.ok P G0 (.msB (B7 m) 58 (.sc (.int .i64 k)) (.sc (.string v)) (B7 (m.set k v))):=Tv (vv:=(fun n=>.sc (.string n))) kB kJ Xm m k v
def RT (m:Mm Int Int):Ap:=mB (fun n=>.int .i64 n) (fun n=>.sc (.int .i64 n)) m
def JC {n l:Nat} (m:Mm Int Int):FO n l:=some ⟨RT m,RT m,Ij fun _=>rfl⟩
theorem dW:P.underlying 100=some (.map 3 3):=by kernel_rfl
theorem eP:P.underlying 3=some ((.int .i64)):=by kernel_rfl
theorem pD:D6 P 3=some (.sc (.int .i64 0)):=by kernel_rfl
theorem XL (m:Mm Int Int) (k:Int):Cd.ok P G0 (.lkB (RT m) 100 (.sc (.int .i64 k)) false (.sc (.int .i64 ((m.get k).getD 0)))):=Ua (vv:=(fun n=>.sc (.int .i64 n))) dW eP Xm (z:=0) pD m k
theorem rP (m:Mm Int Int) (k:Int) (v:Int):Cd.ok P G0 (.msB (RT m) 100 (.sc (.int .i64 k)) (.sc (.int .i64 v)) (RT (m.set k v))):=Tv (vv:=(fun n=>.sc (.int .i64 n))) dW eP Xm m k v
def P8 (m:Mm ByteArray Bool):Ap:=mB (fun n=>.string n) (fun n=>.sc (.bool n)) m
def EI {n l:Nat} (m:Mm ByteArray Bool):FO n l:=some ⟨P8 m,P8 m,Ij fun _=>rfl⟩
theorem cY:P.underlying 101=some (.map 9 4):=by kernel_rfl
theorem fF:P.underlying 9=some (.string):=by kernel_rfl
theorem qW:D6 P 4=some (.sc (.bool false)):=by kernel_rfl
theorem PK (m:Mm ByteArray Bool) (k:ByteArray) {b:Bool} (h:(m.get k).getD false=b):Cd.ok P G0 (.lkB (P8 m) 101 (.sc (.string k)) false (.sc (.bool b))):=by
 subst h
 exact Ua (vv:=(fun n=>.sc (.bool n))) cY fF W1 (z:=false) qW m k
theorem Kj (m:Mm ByteArray Bool) (k:ByteArray) (v:Bool):Cd.ok P G0 (.msB (P8 m) 101 (.sc (.string k)) (.sc (.bool v)) (P8 (m.set k v))):=Tv (vv:=(fun n=>.sc (.bool n))) cY fF W1 m k v
theorem pG:P.underlying 102=some (.map 3 101):=by kernel_rfl
theorem pH:P.underlying 3=some (.int .i64):=by kernel_rfl
theorem Gn {es:List (Value×AV×Nat)} {cl j:Nat} {v:AV} {z:Int} (n:Int) (h:z=n) (hf:Ju (.int .i64) (.int .i64 n) es 0=some (some (j,v))):Cd.ok P G0 (.lkB (.map es cl) 102 (.sc (.int .i64 z)) false v):=by
 subst h
 intro s id hg
 unfold C4
 simp [pG,pH,Il,hg,hf,plainKey]
theorem oA {a b:Int} {q:Bool} (h:some (O0 a b)=some q) (x y:Operand):GI P .leq 3 x y (.sc (.int .i64 a)) (.sc (.int .i64 b))=some (.sc (.bool q)):=by
 rw [← Nw]
 cases h
 kernel_rfl
def PB:ByteArray:=⟨#[33,61]⟩
def cV:ByteArray:=⟨#[42]⟩
def O8:ByteArray:=⟨#[43]⟩
def bE:ByteArray:=⟨#[45]⟩
def MK:ByteArray:=⟨#[47]⟩
def Y4:ByteArray:=⟨#[60]⟩
def PD:ByteArray:=⟨#[60,61]⟩
def Pt:ByteArray:=⟨#[61,61]⟩
def T6:ByteArray:=⟨#[97,109,111,117,110,116]⟩
def Nh:ByteArray:=⟨#[97,110,100]⟩
def oC:ByteArray:=⟨#[97,114,116]⟩
def Rk:ByteArray:=⟨#[97,114,116,105,99,108,101]⟩
def nA:ByteArray:=⟨#[97,116]⟩
def bJ:ByteArray:=⟨#[100,97,121]⟩
def TN:ByteArray:=⟨#[100,101,100,117,99,116]⟩
def eK:ByteArray:=⟨#[101,97,114,110]⟩
def dF:ByteArray:=⟨#[102,97,99,116]⟩
def W2:ByteArray:=⟨#[102,97,108,115,101]⟩
def X2:ByteArray:=⟨#[102,108,111,111,114]⟩
def pX:ByteArray:=⟨#[102,111,114]⟩
def eB:ByteArray:=⟨#[102,114,111,109]⟩
def Gf:ByteArray:=⟨#[103,114,101,97,116,101,115,116]⟩
def cW:ByteArray:=⟨#[105,110,102,111]⟩
def Yu:ByteArray:=⟨#[107,110,111,119,110]⟩
def J2:ByteArray:=⟨#[108,101,97,115,116]⟩
def fB:ByteArray:=⟨#[108,105,110,101]⟩
def rO:ByteArray:=⟨#[109,105,110]⟩
def FG:ByteArray:=⟨#[109,105,110,117,116,101,115]⟩
def Pj:ByteArray:=⟨#[109,111,110,116,104]⟩
def n8:ByteArray:=⟨#[110,111,116]⟩
def CH:ByteArray:=⟨#[110,117,109,98,101,114]⟩
def mW:ByteArray:=⟨#[111,114]⟩
def dV:ByteArray:=⟨#[114,97,110,107]⟩
def XB:ByteArray:=⟨#[116,97,98,108,101]⟩
def yN:ByteArray:=⟨#[116,111]⟩
def dC:ByteArray:=⟨#[116,114,117,101]⟩
def A8:ByteArray:=⟨#[116,114,117,116,104]⟩
def TQ:ByteArray:=⟨#[117,110,108,101,115,115]⟩
def KD:ByteArray:=⟨#[119,101,101,107,100,97,121]⟩
def eL:ByteArray:=⟨#[119,104,101,110]⟩
def T4:ByteArray:=⟨#[121,101,97,114]⟩
end Mo
end Go.Proofs.YtkfplcngmiljaaaGreatDoor
namespace Go.Proofs.YtkfplcngmiljaaaGreatDoor
open AI Go
namespace Mo
set_option maxRecDepth 100000
set_option maxHeartbeats 4000000
def kT (x:Pc):Prop:=(-9223372036854775808≤x.fr∧x.fr≤9223372036854775807)∧(-9223372036854775808≤x.att∧x.att≤9223372036854775807)∧(-9223372036854775808≤x.slope∧x.slope≤9223372036854775807)
def kU (x:Fn):Prop:=x.ps.length≤9223372036854775807∧(∀ y∈x.ps,kT y)
mutual
def DS:Nd→Prop
 | ⟨kind,name,unit,n,fr,to,known,tab,kids,att⟩=>kU tab∧kids.length≤9223372036854775807∧QP kids
def QP:List Nd→Prop
 | []=>True
 | k::ks=>DS k∧QP ks
end
theorem OX {l:List Nd}:QP l↔∀ k∈l,DS k:=by
 induction l with
 | nil=>simp [QP]
 | cons k l ih=>simp [QP,ih]
theorem M5 (x:Nd):DS x↔kU x.tab∧x.kids.length≤9223372036854775807∧∀ y∈x.kids,DS y:=by
 cases x;rw [DS,OX]
end Mo
end Go.Proofs.YtkfplcngmiljaaaGreatDoor
