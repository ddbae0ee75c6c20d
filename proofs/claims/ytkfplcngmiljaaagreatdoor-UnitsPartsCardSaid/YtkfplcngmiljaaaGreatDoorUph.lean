/- Part of a proof: see the last text. -/
import Derived.Test.YtkfplcngmiljaaaGreatDoorUpg
import Derived.Test.YtkfplcngmiljaaaGreatDoorProg
import Derived.KernelRfl
set_option linter.unusedVariables false
set_option linter.unusedSimpArgs false
namespace Go.Proofs.YtkfplcngmiljaaaGreatDoor
open AI Go
namespace Hd
def G:Ay:=fun _=>none
theorem mixed:Tryz.prog.follows .mixedOrders=true:=by kernel_rfl
theorem Ad (g:Nat) (cs:List AV) (h:G g=some cs):AJ cs=true:=by cases h
end Hd
end Go.Proofs.YtkfplcngmiljaaaGreatDoor
namespace Go.Proofs.YtkfplcngmiljaaaGreatDoor
open AI Go
namespace Mo
noncomputable abbrev P:Program:=Tryz.prog
abbrev G:Ay:=Hd.G
noncomputable abbrev X:Kc:=XS P G
variable {G0:Ay}
theorem JR {i n:Nat} (h:i < n):ES ((i:Nat):Int) ((n:Nat):Int)=true:=by rw [IF];simp;exact h
theorem On {i n:Nat} (h:n≤i):ES ((i:Nat):Int) ((n:Nat):Int)=false:=by rw [IF];simp;omega
theorem Me {a b:Int} (h:Bi a b=true):a=b:=by rw [IE] at h;simpa using h
theorem lM {a b:Int} (h:Bi a b=false):a≠b:=by rw [IE] at h;simpa using h
theorem Mh {a b:Int} (h:ES a b=true):a < b:=by rw [IF] at h;exact of_decide_eq_true h
theorem Vs {a b:Int} (h:ES a b=false):b≤a:=by rw [IF] at h;have:=of_decide_eq_false h;omega
theorem Ae {β:Type} {b:Bool} {t f:Option β} {r:β} {X:Prop} (h1:b=true→t=some r→X) (h2:b=false→f=some r→X):cond b t f=some r→X:=fun h=>(qV h).elim (fun x=>h1 x.1 x.2) fun x=>h2 x.1 x.2
theorem Ai {β κ:Type} {m:Option κ} {k:κ→Option β} {r:β} {X:Prop} (h1:∀ y,m=some y→k y=some r→X):m.bind k=some r→X:=fun h=>(UU h).elim fun y x=>h1 y x.1 x.2
theorem bF {β:Type} {n:Nat} {x:Option β} {r:β} {X:Prop} (h1:n≤100000000→x=some r→X):Sv n x=some r→X:=fun h=>h1 (bN h).1 (bN h).2
theorem qT {β:Type} {r:β} {X:Prop}:(none:Option β)=some r→X:=fun h=>nomatch h
theorem aT {a b:Int} (h:a≠b):Bi a b=false:=by rw [IE];simpa using h
theorem kY {a b:Int} (h:a < b):ES a b=true:=by rw [IF];exact decide_eq_true h
theorem cK {a b:Int} (h:b≤a):ES a b=false:=by rw [IF];exact decide_eq_false (by omega)
def fq {n m:Nat} {a:AV} (h:plain a=true):FP n m:=⟨a,a,.plain h⟩
def wM {n m:Nat} (a:List AV) (h:AJ a=true):FB n m:=⟨.cells a,.cells a,.cells (.plain h)⟩
theorem n6 {n:Nat} {l:List AV} (h:AJ l=true):plain (.sl .lost n l)=true:=by simp only [plain,h];rfl
theorem bE {n:Nat} {l:List AV} (h:AJ l=true):plain (.sl .full n l)=true:=by simp only [plain,h];rfl
theorem qN {n m:Nat} {f:Go.Fn} {a l:List AV} (h:Ch n m a=true) (k:Ch n m l=true):under n m (.fn f a l)=true:=by simp only [under,h,k];rfl
def vY (x:Int):List AV:=[.sc (.int .i64 x)]
def QW (x:Int):List AV:=[.sc (.int .u8 x)]
def Jf (x:ByteArray):List AV:=[.sc (.string x)]
theorem Tz:HY QW (rows QW) 1:=⟨fun _=>rfl,fun _=>rfl,fun _=>rfl⟩
theorem AW:HY Jf (rows Jf) 1:=⟨fun _=>rfl,fun _=>rfl,fun _=>rfl⟩
structure Pc where
 fr:Int
 att:Int
 slope:Int
def MH (x:Pc):List AV:=[.sc (.int .i64 x.fr),.sc (.int .i64 x.att),.sc (.int .i64 x.slope)]
theorem J7:HY MH (rows MH) 3:=⟨fun _=>rfl,fun _=>rfl,fun x=>(Bd rfl (Bd rfl (Bd rfl rfl)))⟩
structure Fn where
 den:Int
 ps:(List Pc)
def Ve (x:Fn):List AV:=[.sc (.int .i64 x.den),.sl .lost x.ps.length (rows MH x.ps)]
theorem NL:HY Ve (rows Ve) 2:=⟨fun _=>rfl,fun _=>rfl,fun x=>(Bd rfl (Bd (J7.Hx x.ps) rfl))⟩
structure Nd where
 kind:Int
 name:ByteArray
 unit:ByteArray
 n:Int
 fr:Int
 to:Int
 known:Int
 tab:Fn
 kids:(List Nd)
 att:Int
mutual
def oZ:Nd→List AV
 | ⟨kind,name,unit,n,fr,to,known,tab,kids,att⟩=>[.sc (.int .i64 kind),.sc (.string name),.sc (.string unit),.sc (.int .i64 n),.sc (.int .i64 fr),.sc (.int .i64 to),.sc (.int .i64 known),.sc (.int .i64 tab.den),.sl .lost tab.ps.length (rows MH tab.ps),.sl .lost kids.length (CC kids),.sc (.int .i64 att)]
def CC:List Nd→List AV
 | []=>[]
 | k::ks=>oZ k++CC ks
end
def BA (x:Nd):List AV:=[.sc (.int .i64 x.kind),.sc (.string x.name),.sc (.string x.unit),.sc (.int .i64 x.n),.sc (.int .i64 x.fr),.sc (.int .i64 x.to),.sc (.int .i64 x.known),.sc (.int .i64 x.tab.den),.sl .lost x.tab.ps.length (rows MH x.tab.ps),.sl .lost x.kids.length (CC x.kids),.sc (.int .i64 x.att)]
theorem V8 (x:Nd):oZ x=BA x:=by cases x;rfl
theorem TP (l:List Nd):CC l=rows BA l:=by
 induction l with
 | nil=>rfl
 | cons k ks ih=>rw [E7,CC,ih,V8]
mutual
theorem Xq:∀ x:Nd,AJ (oZ x)=true
 | ⟨kind,name,unit,n,fr,to,known,tab,kids,att⟩=>by rw [oZ];exact (Bd rfl (Bd rfl (Bd rfl (Bd rfl (Bd rfl (Bd rfl (Bd rfl (Bd rfl (Bd (J7.Hx tab.ps) (Bd (n6 (TF kids)) (Bd rfl rfl)))))))))))
theorem TF:∀ l:List Nd,AJ (CC l)=true
 | []=>rfl
 | k::ks=>by rw [CC];exact cB (Xq k) (TF ks)
end
theorem AK:HY BA CC 11:=⟨TP,fun _=>rfl,fun x=>by rw [← V8];exact Xq x⟩
structure Ex where
 op:Int
 n:Int
 unit:ByteArray
 tab:Fn
 kids:(List Ex)
mutual
def qU:Ex→List AV
 | ⟨op,n,unit,tab,kids⟩=>[.sc (.int .i64 op),.sc (.int .i64 n),.sc (.string unit),.sc (.int .i64 tab.den),.sl .lost tab.ps.length (rows MH tab.ps),.sl .lost kids.length (Z5 kids)]
def Z5:List Ex→List AV
 | []=>[]
 | k::ks=>qU k++Z5 ks
end
mutual
theorem iW:∀ x:Ex,AJ (qU x)=true
 | ⟨op,n,unit,tab,kids⟩=>by rw [qU];exact (Bd rfl (Bd rfl (Bd rfl (Bd rfl (Bd (J7.Hx tab.ps) (Bd (n6 (TL kids)) rfl))))))
theorem TL:∀ l:List Ex,AJ (Z5 l)=true
 | []=>rfl
 | k::ks=>by rw [Z5];exact cB (iW k) (TL ks)
end
structure Ar where
 number:Int
 line:Int
 rank:Int
 fr:Int
 to:Int
 known:Int
 wh:(List Ex)
 un:(List Int)
 am:Ex
structure Dc where
 name:ByteArray
 unit:ByteArray
 role:Int
structure Co where
 facts:(List Dc)
 lines:(List Dc)
 arts:(List Ar)
structure Tk where
 kind:Int
 text:ByteArray
 att:Int
structure Dg where
 err:Int
 att:Int
def JV (x:Dg):List AV:=[.sc (.int .i64 x.err),.sc (.int .i64 x.att)]
theorem B0:HY JV (rows JV) 2:=⟨fun _=>rfl,fun _=>rfl,fun x=>(Bd rfl (Bd rfl rfl))⟩
structure Ps where
 l:(List Tk)
 at_:Int
 end_:Int
 err:Int
 errAt:Int
structure Ck where
 nodes:Int
def D7 (x:Ck):List AV:=[.sc (.int .i64 x.nodes)]
theorem IS:HY D7 (rows D7) 1:=⟨fun _=>rfl,fun _=>rfl,fun x=>(Bd rfl rfl)⟩
structure Cq where
 src:Nd
 diags:(List Dg)
structure Ft where
 codex:Co
 lines:(Mm Int Int)
 nodes:Int
structure Sc where
 facts:(Mm ByteArray ByteArray)
 lines:(Mm ByteArray ByteArray)
 AA:(Mm Int ByteArray)
structure Tr where
 codex:Co
 facts:(Mm ByteArray Int)
 lines:(Mm ByteArray Int)
 AA:(Mm Int Int)
theorem sP:P.underlying 22=some (.slice 80):=by kernel_rfl
theorem sY:(P.info? 80).map (·.size)=some 3:=by kernel_rfl
theorem Qz (own:Own) {l:List Pc} {i:Nat} {x:Pc} (h:l[i]?=some x):Bu P 22 (.sl own l.length (rows MH l)) (.sc (.int .i64 ((i:Nat):Int)))=some (.el (MH x++rows MH (l.drop (i+1)))):=J7.ix sP sY own h
theorem Xi (own:Own) {l:List Pc} {z:Int} {x:Pc} (h:LP l z=some x):Bu P 22 (.sl own l.length (rows MH l)) (.sc (.int .i64 z))=some (.el (MH x++rows MH (l.drop (z.toNat+1)))):=J7.tF sP sY own h
theorem jY:P.underlying 25=some (.slice 27):=by kernel_rfl
theorem mG:(P.info? 27).map (·.size)=some 11:=by kernel_rfl
theorem i27:(P.info? 27).map (fun i=>(i.size,i.bytes,i.zero.map (·.cells.size)))=some (11,136,some 11):=by kernel_rfl
theorem Cp (own:Own) {l:List Nd} {i:Nat} {x:Nd} (h:l[i]?=some x):Bu P 25 (.sl own l.length (CC l)) (.sc (.int .i64 ((i:Nat):Int)))=some (.el (BA x++CC (l.drop (i+1)))):=AK.ix jY mG own h
theorem oG (own:Own) {l:List Nd} {z:Int} {x:Nd} (h:LP l z=some x):Bu P 25 (.sl own l.length (CC l)) (.sc (.int .i64 z))=some (.el (BA x++CC (l.drop (z.toNat+1)))):=AK.tF jY mG own h
theorem lY (m:List Nd) {o:Own} (hm:¬ m.length=0) (hlen:m.length≤100000000):Cd.ok P G0 (.apB 25 25 (.sl .full 0 []) (.sl o m.length (CC m)) m.length (.cells (CC m))):=AK.vE jY jY i27 (by decide) (by decide) (fun _=>rfl) m hm hlen
theorem tW:P.underlying 30=some (.slice 53):=by kernel_rfl
theorem i53:(P.info? 53).map (fun i=>(i.size,i.bytes,i.zero.map (·.cells.size)))=some (2,16,some 2):=by kernel_rfl
theorem kG (own:Own) (l m:List Dg) {o:Own} {n:Nat} {ns:List AV} (hn:Wn ns (rows JV m)) (hnn:n=m.length) (ho:ns.all one=true) (hm:m.length≠0) (hlen:l.length+m.length≤100000000):Cd.ok P G0 (.XV 30 30 own l.length (rows JV l) (.sl o n ns) 2 (l++m).length (rows JV (l++m))):=B0.XV tW tW i53 (by decide) (by decide) own l m hn hnn ho hm hlen
theorem tC:P.underlying 42=some (.slice 5):=by kernel_rfl
theorem s5:(P.info? 5).map (·.size)=some 1:=by kernel_rfl
theorem rI (own:Own) {l:List Int} {i:Nat} {x:Int} (h:l[i]?=some x):Bu P 42 (.sl own l.length (rows QW l)) (.sc (.int .i64 ((i:Nat):Int)))=some (.el (QW x++rows QW (l.drop (i+1)))):=Tz.ix tC s5 own h
theorem pA:P.underlying 96=some (.slice 9):=by kernel_rfl
theorem s9:(P.info? 9).map (·.size)=some 1:=by kernel_rfl
theorem nB (own:Own) {l:List ByteArray} {i:Nat} {x:ByteArray} (h:l[i]?=some x):Bu P 96 (.sl own l.length (rows Jf l)) (.sc (.int .i64 ((i:Nat):Int)))=some (.el (Jf x++rows Jf (l.drop (i+1)))):=AW.ix pA s9 own h
theorem gI {id n i:Nat} {z:Int} (h:Iv n z=some i):Bu P 25 (.msl id 0 n) (.sc (.int .i64 z))=some (.ptr id (0+i*11)):=AK.lG jY mG h
theorem mT {l:List Nd} {i:Nat} {x:Nd} (h:l[i]?=some x) (y:Nd):Cd.ok P G0 (.stB (.cells (CC l)) 27 (0+i*11) (.agg (BA y)) (.cells (CC (l.set i y)))):=AK.st mG h y rfl rfl
theorem WU {id n i:Nat} (h:i < n):Bu P 96 (.msl id 0 n) (.sc (.int .i64 ((i:Nat):Int)))=some (.ptr id (0+i*1)):=AW.sD pA s9 h
theorem LK {id n i:Nat} {z:Int} (h:Iv n z=some i):Bu P 96 (.msl id 0 n) (.sc (.int .i64 z))=some (.ptr id (0+i*1)):=AW.lG pA s9 h
theorem Md {l:List ByteArray} {i:Nat} {x:ByteArray} (h:l[i]?=some x):Cd.ok P G0 (.ldB (.cells (rows Jf l)) 9 (0+i*1) (.sc (.string x))):=AW.yH (by kernel_rfl) s9 h rfl
theorem mH {l:List ByteArray} {i:Nat} {x:ByteArray} (h:l[i]?=some x) (y:ByteArray):Cd.ok P G0 (.stB (.cells (rows Jf l)) 9 (0+i*1) (.sc (.string y)) (.cells (rows Jf (l.set i y)))):=AW.st s9 h y rfl rfl
theorem mR {n:Nat} (hn:n≤16777216):Cd.ok P G0 (.mkB 96 (.sc (.int .i64 ((n:Nat):Int))) (.sc (.int .i64 ((n:Nat):Int))) n (.cells (rows Jf (List.replicate n ByteArray.empty)))):=AW.made pA (by kernel_rfl) (by decide) hn
def rB (x:Int):Int:=IntKind.i64.wrap x
def gY (x y:Int):Int:=IntKind.i64.wrap (x.tdiv y)
def ZH (x y:Int):Int:=x.tmod y
def Wp (x y:Int):Option Int:=if y=0 then none else some (gY x y)
def LS (x y:Int):Option Int:=if y=0 then none else some (ZH x y)
def Jn {α:Type} (s:List α) (l h:Int):Option (List α):=if 0≤l∧l≤h∧h≤((s.length:Nat):Int) then some ((s.drop l.toNat).take (h.toNat - l.toNat)) else none
theorem SB (z:Int) (h:0≤z):IY (.sc (.int .i64 z))=some z.toNat:=by unfold IY;simp [h]
theorem YR {a b c:Int} (h:Wp a b=some c) (x y:Operand):Gg P .quo 3 x y (.sc (.int .i64 a)) (.sc (.int .i64 b))=some (.sc (.int .i64 c)):=by
 unfold Wp at h
 split at h
 · cases h
 · rename_i hb
   cases h
   simp [Gg,J4,Lg,eqGuard,binOp,Op.intDiv,hb,AI.pv,OD,scalar,gY,Bind.bind,Sem.bind,Pure.pure]
theorem MQ {a b c:Int} (h:LS a b=some c) (x y:Operand):Gg P .rem 3 x y (.sc (.int .i64 a)) (.sc (.int .i64 b))=some (.sc (.int .i64 c)):=by
 unfold LS at h
 split at h
 · cases h
 · rename_i hb
   cases h
   simp [Gg,J4,Lg,eqGuard,binOp,Op.intDiv,hb,AI.pv,OD,scalar,ZH,Bind.bind,Sem.bind,Pure.pure]
theorem xJ:P.underlying 9=some .string:=by kernel_rfl
theorem IG {s:ByteArray} {i:Nat} {c:UInt8} (h:s.data.toList[i]?=some c):FC P 9 (.sc (.string s)) (.sc (.int .i64 ((i:Nat):Int)))=some (.sc (.int .u8 ((c.toNat:Nat):Int))):=by
 unfold FC
 rw [xJ,SB _ (by omega)]
 simp only [Int.toNat_natCast,h]
theorem ZA (l h:Nat) {s:List Nd} (h1:l≤h) (h2:h≤s.length) (lo hi:Option AV) (e1:Gl 0 lo=some l) (e2:Gl s.length hi=some h):FA P 25 (.sl .lost s.length (CC s)) lo hi none=some (.sl .lost ((s.drop l).take (h - l)).length (CC ((s.drop l).take (h - l)))):=AK.sub jY mG l h h1 h2 lo hi e1 e2
theorem JC {s v:List Nd} {l:Int} (e:Jn s l ((s.length:Nat):Int)=some v):FA P 25 (.sl .lost s.length (CC s)) (some (.sc (.int .i64 l))) (none) none=some (.sl .lost v.length (CC v)):=by
 unfold Jn at e
 split at e
 · rename_i hc
   cases e
   exact ZA _ _ (by omega) (by omega) _ _ (SB l hc.1) rfl
 · cases e
theorem Z3 (l h:Nat) {s:List Int} (h1:l≤h) (h2:h≤s.length) (lo hi:Option AV) (e1:Gl 0 lo=some l) (e2:Gl s.length hi=some h):FA P 42 (.sl .lost s.length (rows QW s)) lo hi none=some (.sl .lost ((s.drop l).take (h - l)).length (rows QW ((s.drop l).take (h - l)))):=Tz.sub tC s5 l h h1 h2 lo hi e1 e2
theorem aL {s v:List Int} {l:Int} (e:Jn s l ((s.length:Nat):Int)=some v):FA P 42 (.sl .lost s.length (rows QW s)) (some (.sc (.int .i64 l))) (none) none=some (.sl .lost v.length (rows QW v)):=by
 unfold Jn at e
 split at e
 · rename_i hc
   cases e
   exact Z3 _ _ (by omega) (by omega) _ _ (SB l hc.1) rfl
 · cases e
def LA (x y:Pc):Bool:=x.fr == y.fr&&(x.att == y.att&&(x.slope == y.slope))
theorem SZ (x y:Pc):Q0 [.int .i64 x.fr,.int .i64 x.att,.int .i64 x.slope] [.int .i64 y.fr,.int .i64 y.att,.int .i64 y.slope]=some (LA x y):=by
 simp only [Q0,j7,LA,if_true,Option.bind_some]
 cases (x.fr == y.fr)<;>cases (x.att == y.att)<;>cases (x.slope == y.slope)<;>rfl
theorem iL:Flat P 80 [1,1,1]:=⟨by kernel_rfl,by kernel_rfl,by kernel_rfl,by kernel_rfl,by kernel_rfl,by kernel_rfl⟩
theorem bW {x y:Pc} {b:Bool} (h:LA x y=b) (ox oy:Operand):Gg P .neq 80 ox oy (.agg (MH x)) (.agg (MH y))=some (.sc (.bool (!b))):=by
 subst h
 exact (iL.bin (us:=[.int .i64 x.fr,.int .i64 x.att,.int .i64 x.slope]) (vs:=[.int .i64 y.fr,.int .i64 y.att,.int .i64 y.slope]) ⟨.inl ⟨_,rfl,rfl⟩,⟨.inl ⟨_,rfl,rfl⟩,⟨.inl ⟨_,rfl,rfl⟩,trivial⟩⟩⟩ ⟨.inl ⟨_,rfl,rfl⟩,⟨.inl ⟨_,rfl,rfl⟩,⟨.inl ⟨_,rfl,rfl⟩,trivial⟩⟩⟩ (SZ x y) ox oy).2
def Cc (m:Mm ByteArray ByteArray):Ax:=mB (fun n=>.string n) (fun n=>.sc (.string n)) m
def A9 {n l:Nat} (m:Mm ByteArray ByteArray):FO n l:=some ⟨Cc m,Cc m,KX fun _=>rfl⟩
theorem eU:P.underlying 40=some (.map 9 9):=by kernel_rfl
theorem fT:P.underlying 9=some (.string):=by kernel_rfl
theorem oD:EU P 9=some (.sc (.string ByteArray.empty)):=by kernel_rfl
theorem iV (m:Mm ByteArray ByteArray) (k:ByteArray):Cd.ok P G0 (.lkB (Cc m) 40 (.sc (.string k)) false (.sc (.string ((m.get k).getD ByteArray.empty)))):=cJ (vv:=(fun n=>.sc (.string n))) eU fT gD (z:=ByteArray.empty) oD m k
theorem Tx (m:Mm ByteArray ByteArray) (k:ByteArray) {b:Bool} (h:(m.get k).isSome=b):Cd.ok P G0 (.lkB (Cc m) 40 (.sc (.string k)) true (.Bq [.sc (.string ((m.get k).getD ByteArray.empty)),.sc (.bool b)])):=XG (vv:=(fun n=>.sc (.string n))) eU fT gD (z:=ByteArray.empty) oD m k h
theorem lI (m:Mm ByteArray ByteArray) (k:ByteArray) (v:ByteArray):Cd.ok P G0 (.msB (Cc m) 40 (.sc (.string k)) (.sc (.string v)) (Cc (m.set k v))):=bP (vv:=(fun n=>.sc (.string n))) eU fT gD m k v
def EL (m:Mm Int ByteArray):Ax:=mB (fun n=>.int .i64 n) (fun n=>.sc (.string n)) m
def C3 {n l:Nat} (m:Mm Int ByteArray):FO n l:=some ⟨EL m,EL m,KX fun _=>rfl⟩
theorem iI:P.underlying 58=some (.map 3 9):=by kernel_rfl
theorem fK:P.underlying 3=some ((.int .i64)):=by kernel_rfl
theorem mI:EU P 9=some (.sc (.string ByteArray.empty)):=by kernel_rfl
theorem pR (m:Mm Int ByteArray) (k:Int):Cd.ok P G0 (.lkB (EL m) 58 (.sc (.int .i64 k)) false (.sc (.string ((m.get k).getD ByteArray.empty)))):=cJ (vv:=(fun n=>.sc (.string n))) iI fK iA (z:=ByteArray.empty) mI m k
theorem aZ (m:Mm Int ByteArray) (k:Int) {b:Bool} (h:(m.get k).isSome=b):Cd.ok P G0 (.lkB (EL m) 58 (.sc (.int .i64 k)) true (.Bq [.sc (.string ((m.get k).getD ByteArray.empty)),.sc (.bool b)])):=XG (vv:=(fun n=>.sc (.string n))) iI fK iA (z:=ByteArray.empty) mI m k h
theorem pP (m:Mm Int ByteArray) (k:Int) (v:ByteArray):Cd.ok P G0 (.msB (EL m) 58 (.sc (.int .i64 k)) (.sc (.string v)) (EL (m.set k v))):=bP (vv:=(fun n=>.sc (.string n))) iI fK iA m k v
theorem VF {a b:ByteArray} {q:Bool} (h:some (BT a.data.toList b.data.toList)=some q) (x y:Operand):Gg P .eql 9 x y (.sc (.string a)) (.sc (.string b))=some (.sc (.bool q)):=by
 rw [← I4]
 cases h
 kernel_rfl
theorem Tl {a b:Int} {q:Bool} (h:some (ES b a)=some q) (x y:Operand):Gg P .gtr 3 x y (.sc (.int .i64 a)) (.sc (.int .i64 b))=some (.sc (.bool q)):=by
 rw [← I4]
 cases h
 kernel_rfl
theorem lP {a b:Int} {q:Bool} (h:some (J0 a b)=some q) (x y:Operand):Gg P .leq 3 x y (.sc (.int .i64 a)) (.sc (.int .i64 b))=some (.sc (.bool q)):=by
 rw [← I4]
 cases h
 kernel_rfl
def GO:ByteArray:=⟨#[33,61]⟩
def NO:ByteArray:=⟨#[42]⟩
def JY:ByteArray:=⟨#[43]⟩
def M0:ByteArray:=⟨#[45]⟩
def H8:ByteArray:=⟨#[47]⟩
def Nb:ByteArray:=⟨#[60]⟩
def GP:ByteArray:=⟨#[60,61]⟩
def GX:ByteArray:=⟨#[61,61]⟩
def JP:ByteArray:=⟨#[97,109,111,117,110,116]⟩
def Hc:ByteArray:=⟨#[97,110,100]⟩
def Ut:ByteArray:=⟨#[97,114,116]⟩
def Ie:ByteArray:=⟨#[97,114,116,105,99,108,101]⟩
def RE:ByteArray:=⟨#[97,116]⟩
def My:ByteArray:=⟨#[100,97,121]⟩
def JM:ByteArray:=⟨#[100,101,100,117,99,116]⟩
def OW:ByteArray:=⟨#[101,97,114,110]⟩
def OP:ByteArray:=⟨#[102,97,99,116]⟩
def L2:ByteArray:=⟨#[102,97,108,115,101]⟩
def LY:ByteArray:=⟨#[102,108,111,111,114]⟩
def UD:ByteArray:=⟨#[102,111,114]⟩
def O1:ByteArray:=⟨#[102,114,111,109]⟩
def Dz:ByteArray:=⟨#[103,114,101,97,116,101,115,116]⟩
def Pv:ByteArray:=⟨#[105,110,102,111]⟩
def LD:ByteArray:=⟨#[107,110,111,119,110]⟩
def FJ:ByteArray:=⟨#[108,101,97,115,116]⟩
def OI:ByteArray:=⟨#[108,105,110,101]⟩
def T3:ByteArray:=⟨#[109,105,110]⟩
def Cw:ByteArray:=⟨#[109,105,110,117,116,101,115]⟩
def Gb:ByteArray:=⟨#[109,111,110,116,104]⟩
def Ub:ByteArray:=⟨#[110,111,116]⟩
def Bw:ByteArray:=⟨#[110,117,109,98,101,114]⟩
def QT:ByteArray:=⟨#[111,114]⟩
def OY:ByteArray:=⟨#[114,97,110,107]⟩
def L0:ByteArray:=⟨#[116,97,98,108,101]⟩
def jX:ByteArray:=⟨#[116,111]⟩
def OU:ByteArray:=⟨#[116,114,117,101]⟩
def A4:ByteArray:=⟨#[116,114,117,116,104]⟩
def JG:ByteArray:=⟨#[117,110,108,101,115,115]⟩
def DU:ByteArray:=⟨#[119,101,101,107,100,97,121]⟩
def OX:ByteArray:=⟨#[119,104,101,110]⟩
def IQ:ByteArray:=⟨#[121,101,97,114]⟩
end Mo
end Go.Proofs.YtkfplcngmiljaaaGreatDoor
namespace Go.Proofs.YtkfplcngmiljaaaGreatDoor
open AI Go
namespace Mo
set_option maxRecDepth 100000
set_option maxHeartbeats 4000000
def dL (x:Pc):Prop:=(-9223372036854775808≤x.fr∧x.fr≤9223372036854775807)∧(-9223372036854775808≤x.att∧x.att≤9223372036854775807)∧(-9223372036854775808≤x.slope∧x.slope≤9223372036854775807)
def Y8 (x:Fn):Prop:=x.ps.length≤9223372036854775807∧(∀ y∈x.ps,dL y)
mutual
def C8:Nd→Prop
 | ⟨kind,name,unit,n,fr,to,known,tab,kids,att⟩=>Y8 tab∧kids.length≤9223372036854775807∧RD kids
def RD:List Nd→Prop
 | []=>True
 | k::ks=>C8 k∧RD ks
end
theorem Pq {l:List Nd}:RD l↔∀ k∈l,C8 k:=by
 induction l with
 | nil=>simp [RD]
 | cons k l ih=>simp [RD,ih]
theorem KR (x:Nd):C8 x↔Y8 x.tab∧x.kids.length≤9223372036854775807∧∀ y∈x.kids,C8 y:=by
 cases x;rw [C8,Pq]
end Mo
end Go.Proofs.YtkfplcngmiljaaaGreatDoor
