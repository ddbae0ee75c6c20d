/- Part of a proof: see the last text. -/
import Derived.Test.YtkfplcngmiljaaaGreatDoorUng
import Derived.Test.YtkfplcngmiljaaaGreatDoorProg
import Derived.KernelRfl
set_option linter.unusedVariables false
set_option linter.unusedSimpArgs false
namespace Go.Proofs.YtkfplcngmiljaaaGreatDoor
open AI Go
namespace Hd
def G:AJ:=fun _=>none
theorem mixed:Tryz.prog.follows .mixedOrders=true:=by kernel_rfl
theorem Ac (g:Nat) (cs:List AV) (h:G g=some cs):AW cs=true:=by cases h
end Hd
end Go.Proofs.YtkfplcngmiljaaaGreatDoor
namespace Go.Proofs.YtkfplcngmiljaaaGreatDoor
open AI Go
namespace Mo
noncomputable abbrev P:Program:=Tryz.prog
abbrev G:AJ:=Hd.G
noncomputable abbrev X:Lw:=XS P G
variable {G0:AJ}
theorem F5 {i n:Nat} (h:i < n):FV ((i:Nat):Int) ((n:Nat):Int)=true:=by rw [Kp];simp;exact h
theorem II {i n:Nat} (h:n≤i):FV ((i:Nat):Int) ((n:Nat):Int)=false:=by rw [Kp];simp;omega
theorem Gk {a b:Int} (h:Br a b=true):a=b:=by rw [JU] at h;simpa using h
theorem NM {a b:Int} (h:FV a b=true):a < b:=by rw [Kp] at h;exact of_decide_eq_true h
theorem XC {a b:Int} (h:FV a b=false):b≤a:=by rw [Kp] at h;have:=of_decide_eq_false h;omega
theorem Ae {β:Type} {b:Bool} {t f:Option β} {r:β} {X:Prop} (h1:b=true→t=some r→X) (h2:b=false→f=some r→X):cond b t f=some r→X:=fun h=>(wE h).elim (fun x=>h1 x.1 x.2) fun x=>h2 x.1 x.2
theorem Aj {β κ:Type} {m:Option κ} {k:κ→Option β} {r:β} {X:Prop} (h1:∀ y,m=some y→k y=some r→X):m.bind k=some r→X:=fun h=>(Xa h).elim fun y x=>h1 y x.1 x.2
theorem Hy {β:Type} {n:Nat} {x:Option β} {r:β} {X:Prop} (h1:n≤100000000→x=some r→X):My n x=some r→X:=fun h=>h1 (iT h).1 (iT h).2
theorem tF {β:Type} {r:β} {X:Prop}:(none:Option β)=some r→X:=fun h=>nomatch h
theorem gQ {a b:Int} (h:a≠b):Br a b=false:=by rw [JU];simpa using h
theorem sC {a b:Int} (h:a < b):FV a b=true:=by rw [Kp];exact decide_eq_true h
theorem iE {a b:Int} (h:b≤a):FV a b=false:=by rw [Kp];exact decide_eq_false (by omega)
def fq {n m:Nat} {a:AV} (h:plain a=true):FP n m:=⟨a,a,.plain h⟩
def fbp {n m:Nat} (a:List AV) (h:AW a=true):FB n m:=⟨.cells a,.cells a,.cells (.plain h)⟩
theorem sH {n:Nat} {l:List AV} (h:AW l=true):plain (.sl .lost n l)=true:=by simp only [plain,h];rfl
theorem iC {n:Nat} {l:List AV} (h:AW l=true):plain (.sl .full n l)=true:=by simp only [plain,h];rfl
theorem xF {n m:Nat} {f:Go.Fn} {a l:List AV} (h:CF n m a=true) (k:CF n m l=true):under n m (.fn f a l)=true:=by simp only [under,h,k];rfl
def inC (x:Int):List AV:=[.sc (.int .i64 x)]
def Kz (x:ByteArray):List AV:=[.sc (.string x)]
theorem A8:Ka Kz (rows Kz) 1:=⟨fun _=>rfl,fun _=>rfl,fun _=>rfl⟩
structure Pc where
 fr:Int
 att:Int
 slope:Int
def FF (x:Pc):List AV:=[.sc (.int .i64 x.fr),.sc (.int .i64 x.att),.sc (.int .i64 x.slope)]
theorem Mb:Ka FF (rows FF) 3:=⟨fun _=>rfl,fun _=>rfl,fun x=>(Bl rfl (Bl rfl (Bl rfl rfl)))⟩
structure Fn where
 den:Int
 ps:(List Pc)
def Xh (x:Fn):List AV:=[.sc (.int .i64 x.den),.sl .lost x.ps.length (rows FF x.ps)]
theorem OG:Ka Xh (rows Xh) 2:=⟨fun _=>rfl,fun _=>rfl,fun x=>(Bl rfl (Bl (Mb.EL x.ps) rfl))⟩
structure Nd where
 kind:Int
 name:ByteArray
 unit:ByteArray
 n:Int
 fr:Int
 to:Int
 known:Int
 tab:Fn
 kids:(List Nd)
 att:Int
mutual
def uE:Nd→List AV
 | ⟨kind,name,unit,n,fr,to,known,tab,kids,att⟩=>[.sc (.int .i64 kind),.sc (.string name),.sc (.string unit),.sc (.int .i64 n),.sc (.int .i64 fr),.sc (.int .i64 to),.sc (.int .i64 known),.sc (.int .i64 tab.den),.sl .lost tab.ps.length (rows FF tab.ps),.sl .lost kids.length (A7 kids),.sc (.int .i64 att)]
def A7:List Nd→List AV
 | []=>[]
 | k::ks=>uE k++A7 ks
end
def A9 (x:Nd):List AV:=[.sc (.int .i64 x.kind),.sc (.string x.name),.sc (.string x.unit),.sc (.int .i64 x.n),.sc (.int .i64 x.fr),.sc (.int .i64 x.to),.sc (.int .i64 x.known),.sc (.int .i64 x.tab.den),.sl .lost x.tab.ps.length (rows FF x.tab.ps),.sl .lost x.kids.length (A7 x.kids),.sc (.int .i64 x.att)]
theorem Xz (x:Nd):uE x=A9 x:=by cases x;rfl
theorem UY (l:List Nd):A7 l=rows A9 l:=by
 induction l with
 | nil=>rfl
 | cons k ks ih=>rw [F6,A7,ih,Xz]
mutual
theorem Yc:∀ x:Nd,AW (uE x)=true
 | ⟨kind,name,unit,n,fr,to,known,tab,kids,att⟩=>by rw [uE];exact (Bl rfl (Bl rfl (Bl rfl (Bl rfl (Bl rfl (Bl rfl (Bl rfl (Bl rfl (Bl (Mb.EL tab.ps) (Bl (sH (U1 kids)) (Bl rfl rfl)))))))))))
theorem U1:∀ l:List Nd,AW (A7 l)=true
 | []=>rfl
 | k::ks=>by rw [A7];exact iG (Yc k) (U1 ks)
end
theorem Am:Ka A9 A7 11:=⟨UY,fun _=>rfl,fun x=>by rw [← Xz];exact Yc x⟩
structure Ex where
 op:Int
 n:Int
 unit:ByteArray
 tab:Fn
 kids:(List Ex)
mutual
def vU:Ex→List AV
 | ⟨op,n,unit,tab,kids⟩=>[.sc (.int .i64 op),.sc (.int .i64 n),.sc (.string unit),.sc (.int .i64 tab.den),.sl .lost tab.ps.length (rows FF tab.ps),.sl .lost kids.length (aB kids)]
def aB:List Ex→List AV
 | []=>[]
 | k::ks=>vU k++aB ks
end
mutual
theorem lC:∀ x:Ex,AW (vU x)=true
 | ⟨op,n,unit,tab,kids⟩=>by rw [vU];exact (Bl rfl (Bl rfl (Bl rfl (Bl rfl (Bl (Mb.EL tab.ps) (Bl (sH (Vl kids)) rfl))))))
theorem Vl:∀ l:List Ex,AW (aB l)=true
 | []=>rfl
 | k::ks=>by rw [aB];exact iG (lC k) (Vl ks)
end
structure Ar where
 number:Int
 line:Int
 rank:Int
 fr:Int
 to:Int
 known:Int
 wh:(List Ex)
 un:(List Int)
 am:Ex
structure Dc where
 name:ByteArray
 unit:ByteArray
 role:Int
structure Co where
 facts:(List Dc)
 lines:(List Dc)
 arts:(List Ar)
structure Tk where
 kind:Int
 text:ByteArray
 att:Int
structure Dg where
 err:Int
 att:Int
def DX (x:Dg):List AV:=[.sc (.int .i64 x.err),.sc (.int .i64 x.att)]
theorem AZ:Ka DX (rows DX) 2:=⟨fun _=>rfl,fun _=>rfl,fun x=>(Bl rfl (Bl rfl rfl))⟩
structure Ps where
 l:(List Tk)
 at_:Int
 end_:Int
 err:Int
 errAt:Int
structure Ck where
 nodes:Int
def EQ (x:Ck):List AV:=[.sc (.int .i64 x.nodes)]
theorem J8:Ka EQ (rows EQ) 1:=⟨fun _=>rfl,fun _=>rfl,fun x=>(Bl rfl rfl)⟩
structure Cq where
 src:Nd
 diags:(List Dg)
structure Ft where
 codex:Co
 lines:(Mm Int Int)
 nodes:Int
structure Sc where
 facts:(Mm ByteArray ByteArray)
 lines:(Mm ByteArray ByteArray)
 Ah:(Mm Int ByteArray)
structure Tr where
 codex:Co
 facts:(Mm ByteArray Int)
 lines:(Mm ByteArray Int)
 Ah:(Mm Int Int)
theorem u22:P.underlying 22=some (.slice 80):=by kernel_rfl
theorem yN:(P.info? 80).map (·.size)=some 3:=by kernel_rfl
theorem SE (own:Own) {l:List Pc} {i:Nat} {x:Pc} (h:l[i]?=some x):BZ P 22 (.sl own l.length (rows FF l)) (.sc (.int .i64 ((i:Nat):Int)))=some (.el (FF x++rows FF (l.drop (i+1)))):=Mb.ix u22 yN own h
theorem Yn (own:Own) {l:List Pc} {z:Int} {x:Pc} (h:RZ l z=some x):BZ P 22 (.sl own l.length (rows FF l)) (.sc (.int .i64 z))=some (.el (FF x++rows FF (l.drop (z.toNat+1)))):=Mb.ixz u22 yN own h
theorem uK:P.underlying 25=some (.slice 27):=by kernel_rfl
theorem zX:(P.info? 27).map (·.size)=some 11:=by kernel_rfl
theorem i27:(P.info? 27).map (fun i=>(i.size,i.bytes,i.zero.map (·.cells.size)))=some (11,136,some 11):=by kernel_rfl
theorem Bu (own:Own) {l:List Nd} {i:Nat} {x:Nd} (h:l[i]?=some x):BZ P 25 (.sl own l.length (A7 l)) (.sc (.int .i64 ((i:Nat):Int)))=some (.el (A9 x++A7 (l.drop (i+1)))):=Am.ix uK zX own h
theorem Ir (own:Own) (l m:List Nd) {o:Own} {n:Nat} {ns:List AV} (hn:Wn ns (A7 m)) (hnn:n=m.length) (ho:ns.all one=true) (hm:m.length≠0) (hlen:l.length+m.length≤100000000):Cd.ok P G0 (.Xj 25 25 own l.length (A7 l) (.sl o n ns) 11 (l++m).length (A7 (l++m))):=Am.Xj uK uK i27 (by decide) (by decide) own l m hn hnn ho hm hlen
theorem vV:P.underlying 30=some (.slice 53):=by kernel_rfl
theorem s53:(P.info? 53).map (·.size)=some 2:=by kernel_rfl
theorem i53:(P.info? 53).map (fun i=>(i.size,i.bytes,i.zero.map (·.cells.size)))=some (2,16,some 2):=by kernel_rfl
theorem bM (own:Own) {l:List Dg} {i:Nat} {x:Dg} (h:l[i]?=some x):BZ P 30 (.sl own l.length (rows DX l)) (.sc (.int .i64 ((i:Nat):Int)))=some (.el (DX x++rows DX (l.drop (i+1)))):=AZ.ix vV s53 own h
theorem qT (own:Own) (l m:List Dg) {o:Own} {n:Nat} {ns:List AV} (hn:Wn ns (rows DX m)) (hnn:n=m.length) (ho:ns.all one=true) (hm:m.length≠0) (hlen:l.length+m.length≤100000000):Cd.ok P G0 (.Xj 30 30 own l.length (rows DX l) (.sl o n ns) 2 (l++m).length (rows DX (l++m))):=AZ.Xj vV vV i53 (by decide) (by decide) own l m hn hnn ho hm hlen
theorem i5:(P.info? 5).map (fun i=>(i.size,i.bytes,i.zero.map (·.cells.size)))=some (1,1,some 1):=by kernel_rfl
theorem uN:P.underlying 96=some (.slice 9):=by kernel_rfl
theorem s9:(P.info? 9).map (·.size)=some 1:=by kernel_rfl
theorem sJ (own:Own) {l:List ByteArray} {i:Nat} {x:ByteArray} (h:l[i]?=some x):BZ P 96 (.sl own l.length (rows Kz l)) (.sc (.int .i64 ((i:Nat):Int)))=some (.el (Kz x++rows Kz (l.drop (i+1)))):=A8.ix uN s9 own h
theorem XI {id n i:Nat} (h:i < n):BZ P 96 (.msl id 0 n) (.sc (.int .i64 ((i:Nat):Int)))=some (.ptr id (0+i*1)):=A8.xW uN s9 h
theorem Nl {id n i:Nat} {z:Int} (h:LD n z=some i):BZ P 96 (.msl id 0 n) (.sc (.int .i64 z))=some (.ptr id (0+i*1)):=A8.wK uN s9 h
theorem NN {l:List ByteArray} {i:Nat} {x:ByteArray} (h:l[i]?=some x):Cd.ok P G0 (.ldB (.cells (rows Kz l)) 9 (0+i*1) (.sc (.string x))):=A8.ld1 (by kernel_rfl) s9 h rfl
theorem sZ {l:List ByteArray} {i:Nat} {x:ByteArray} (h:l[i]?=some x) (y:ByteArray):Cd.ok P G0 (.stB (.cells (rows Kz l)) 9 (0+i*1) (.sc (.string y)) (.cells (rows Kz (l.set i y)))):=A8.st s9 h y rfl rfl
theorem qZ {n:Nat} (hn:n≤16777216):Cd.ok P G0 (.mkB 96 (.sc (.int .i64 ((n:Nat):Int))) (.sc (.int .i64 ((n:Nat):Int))) n (.cells (rows Kz (List.replicate n ByteArray.empty)))):=A8.made uN (by kernel_rfl) (by decide) hn
def kH (x y:Int):Int:=IntKind.i64.wrap (x.tdiv y)
def lF (x y:Int):Int:=x.tmod y
def Zw (x y:Int):Option Int:=if y=0 then none else some (kH x y)
def PT (x y:Int):Option Int:=if y=0 then none else some (lF x y)
def JT {α:Type} (s:List α) (l h:Int):Option (List α):=if 0≤l∧l≤h∧h≤((s.length:Nat):Int) then some ((s.drop l.toNat).take (h.toNat - l.toNat)) else none
theorem Y1 (z:Int) (h:0≤z):Kc (.sc (.int .i64 z))=some z.toNat:=by unfold Kc;simp [h]
theorem fG {a b c:Int} (h:Zw a b=some c) (x y:Operand):GG P .quo 3 x y (.sc (.int .i64 a)) (.sc (.int .i64 b))=some (.sc (.int .i64 c)):=by
 unfold Zw at h
 split at h
 · cases h
 · rename_i hb
   cases h
   simp [GG,MA,eqGuard,binOp,Op.intDiv,hb,AI.pv,PU,scalar,kH,Bind.bind,Sem.bind,Pure.pure]
theorem RY {a b c:Int} (h:PT a b=some c) (x y:Operand):GG P .rem 3 x y (.sc (.int .i64 a)) (.sc (.int .i64 b))=some (.sc (.int .i64 c)):=by
 unfold PT at h
 split at h
 · cases h
 · rename_i hb
   cases h
   simp [GG,MA,eqGuard,binOp,Op.intDiv,hb,AI.pv,PU,scalar,lF,Bind.bind,Sem.bind,Pure.pure]
theorem us9:P.underlying 9=some .string:=by kernel_rfl
theorem JX {s:ByteArray} {i:Nat} {c:UInt8} (h:s.data.toList[i]?=some c):GS P 9 (.sc (.string s)) (.sc (.int .i64 ((i:Nat):Int)))=some (.sc (.int .u8 ((c.toNat:Nat):Int))):=by
 unfold GS
 rw [us9,Y1 _ (by omega)]
 simp only [Int.toNat_natCast,h]
theorem bP (l h:Nat) {s:List Nd} (h1:l≤h) (h2:h≤s.length) (lo hi:Option AV) (e1:I1 0 lo=some l) (e2:I1 s.length hi=some h):IA P 25 (.sl .lost s.length (A7 s)) lo hi none=some (.sl .lost ((s.drop l).take (h - l)).length (A7 ((s.drop l).take (h - l)))):=Am.sub uK zX l h h1 h2 lo hi e1 e2
theorem Gl {s v:List Nd} {l:Int} (e:JT s l ((s.length:Nat):Int)=some v):IA P 25 (.sl .lost s.length (A7 s)) (some (.sc (.int .i64 l))) (none) none=some (.sl .lost v.length (A7 v)):=by
 unfold JT at e
 split at e
 · rename_i hc
   cases e
   exact bP _ _ (by omega) (by omega) _ _ (Y1 l hc.1) rfl
 · cases e
def Nh (x y:Pc):Bool:=x.fr == y.fr&&(x.att == y.att&&(x.slope == y.slope))
theorem Ut (x y:Pc):P7 [.int .i64 x.fr,.int .i64 x.att,.int .i64 x.slope] [.int .i64 y.fr,.int .i64 y.att,.int .i64 y.slope]=some (Nh x y):=by
 simp only [P7,kI,Nh,if_true,Option.bind_some]
 cases (x.fr == y.fr)<;>cases (x.att == y.att)<;>cases (x.slope == y.slope)<;>rfl
theorem oN:Flat P 80 [1,1,1]:=⟨by kernel_rfl,by kernel_rfl,by kernel_rfl,by kernel_rfl,by kernel_rfl,by kernel_rfl⟩
theorem gZ {x y:Pc} {b:Bool} (h:Nh x y=b) (ox oy:Operand):GG P .neq 80 ox oy (.agg (FF x)) (.agg (FF y))=some (.sc (.bool (!b))):=by
 subst h
 exact (oN.bin (us:=[.int .i64 x.fr,.int .i64 x.att,.int .i64 x.slope]) (vs:=[.int .i64 y.fr,.int .i64 y.att,.int .i64 y.slope]) ⟨.inl ⟨_,rfl,rfl⟩,⟨.inl ⟨_,rfl,rfl⟩,⟨.inl ⟨_,rfl,rfl⟩,trivial⟩⟩⟩ ⟨.inl ⟨_,rfl,rfl⟩,⟨.inl ⟨_,rfl,rfl⟩,⟨.inl ⟨_,rfl,rfl⟩,trivial⟩⟩⟩ (Ut x y) ox oy).2
def M1 (x y:Dg):Bool:=x.err == y.err&&(x.att == y.att)
theorem TX (x y:Dg):P7 [.int .i64 x.err,.int .i64 x.att] [.int .i64 y.err,.int .i64 y.att]=some (M1 x y):=by
 simp only [P7,kI,M1,if_true,Option.bind_some]
 cases (x.err == y.err)<;>cases (x.att == y.att)<;>rfl
theorem nS:Flat P 53 [1,1]:=⟨by kernel_rfl,by kernel_rfl,by kernel_rfl,by kernel_rfl,by kernel_rfl,by kernel_rfl⟩
theorem gT {x y:Dg} {b:Bool} (h:M1 x y=b) (ox oy:Operand):GG P .neq 53 ox oy (.agg (DX x)) (.agg (DX y))=some (.sc (.bool (!b))):=by
 subst h
 exact (nS.bin (us:=[.int .i64 x.err,.int .i64 x.att]) (vs:=[.int .i64 y.err,.int .i64 y.att]) ⟨.inl ⟨_,rfl,rfl⟩,⟨.inl ⟨_,rfl,rfl⟩,trivial⟩⟩ ⟨.inl ⟨_,rfl,rfl⟩,⟨.inl ⟨_,rfl,rfl⟩,trivial⟩⟩ (TX x y) ox oy).2
def Ba (m:Mm ByteArray ByteArray):AF:=mB (fun n=>.string n) (fun n=>.sc (.string n)) m
def AN {n l:Nat} (m:Mm ByteArray ByteArray):FO n l:=some ⟨Ba m,Ba m,JH fun _=>rfl⟩
theorem mR:P.underlying 40=some (.map 9 9):=by kernel_rfl
theorem jZ:P.underlying 9=some (.string):=by kernel_rfl
theorem tV:Fb P 9=some (.sc (.string ByteArray.empty)):=by kernel_rfl
theorem aM (m:Mm ByteArray ByteArray) (k:ByteArray):Cd.ok P G0 (.lkB (Ba m) 40 (.sc (.string k)) false (.sc (.string ((m.get k).getD ByteArray.empty)))):=VI (vv:=(fun n=>.sc (.string n))) mR jZ ZV (z:=ByteArray.empty) tV m k
theorem PI (m:Mm ByteArray ByteArray) (k:ByteArray) {b:Bool} (h:(m.get k).isSome=b):Cd.ok P G0 (.lkB (Ba m) 40 (.sc (.string k)) true (.Bq [.sc (.string ((m.get k).getD ByteArray.empty)),.sc (.bool b)])):=ZD (vv:=(fun n=>.sc (.string n))) mR jZ ZV (z:=ByteArray.empty) tV m k h
theorem sD (m:Mm ByteArray ByteArray) (k:ByteArray) (v:ByteArray):Cd.ok P G0 (.msB (Ba m) 40 (.sc (.string k)) (.sc (.string v)) (Ba (m.set k v))):=VE (vv:=(fun n=>.sc (.string n))) mR jZ ZV m k v
def CM (m:Mm Int ByteArray):AF:=mB (fun n=>.int .i64 n) (fun n=>.sc (.string n)) m
def BD {n l:Nat} (m:Mm Int ByteArray):FO n l:=some ⟨CM m,CM m,JH fun _=>rfl⟩
theorem oG:P.underlying 58=some (.map 3 9):=by kernel_rfl
theorem lX:P.underlying 3=some ((.int .i64)):=by kernel_rfl
theorem qN:Fb P 9=some (.sc (.string ByteArray.empty)):=by kernel_rfl
theorem kU (m:Mm Int ByteArray) (k:Int):Cd.ok P G0 (.lkB (CM m) 58 (.sc (.int .i64 k)) false (.sc (.string ((m.get k).getD ByteArray.empty)))):=VI (vv:=(fun n=>.sc (.string n))) oG lX Xu (z:=ByteArray.empty) qN m k
theorem U5 (m:Mm Int ByteArray) (k:Int) {b:Bool} (h:(m.get k).isSome=b):Cd.ok P G0 (.lkB (CM m) 58 (.sc (.int .i64 k)) true (.Bq [.sc (.string ((m.get k).getD ByteArray.empty)),.sc (.bool b)])):=ZD (vv:=(fun n=>.sc (.string n))) oG lX Xu (z:=ByteArray.empty) qN m k h
theorem vG (m:Mm Int ByteArray) (k:Int) (v:ByteArray):Cd.ok P G0 (.msB (CM m) 58 (.sc (.int .i64 k)) (.sc (.string v)) (CM (m.set k v))):=VE (vv:=(fun n=>.sc (.string n))) oG lX Xu m k v
def UJ (m:Mm Int Int):AF:=mB (fun n=>.int .i64 n) (fun n=>.sc (.int .i64 n)) m
def Lk {n l:Nat} (m:Mm Int Int):FO n l:=some ⟨UJ m,UJ m,JH fun _=>rfl⟩
theorem jB:P.underlying 100=some (.map 3 3):=by kernel_rfl
theorem gP:P.underlying 3=some ((.int .i64)):=by kernel_rfl
theorem qJ:Fb P 3=some (.sc (.int .i64 0)):=by kernel_rfl
theorem Zz (m:Mm Int Int) (k:Int):Cd.ok P G0 (.lkB (UJ m) 100 (.sc (.int .i64 k)) false (.sc (.int .i64 ((m.get k).getD 0)))):=VI (vv:=(fun n=>.sc (.int .i64 n))) jB gP Xu (z:=0) qJ m k
theorem p5 (m:Mm Int Int) (k:Int) (v:Int):Cd.ok P G0 (.msB (UJ m) 100 (.sc (.int .i64 k)) (.sc (.int .i64 v)) (UJ (m.set k v))):=VE (vv:=(fun n=>.sc (.int .i64 n))) jB gP Xu m k v
def Rh (m:Mm ByteArray Bool):AF:=mB (fun n=>.string n) (fun n=>.sc (.bool n)) m
def F8 {n l:Nat} (m:Mm ByteArray Bool):FO n l:=some ⟨Rh m,Rh m,JH fun _=>rfl⟩
theorem iY:P.underlying 101=some (.map 9 4):=by kernel_rfl
theorem hO:P.underlying 9=some (.string):=by kernel_rfl
theorem tM:Fb P 4=some (.sc (.bool false)):=by kernel_rfl
theorem R7 (m:Mm ByteArray Bool) (k:ByteArray) {b:Bool} (h:(m.get k).getD false=b):Cd.ok P G0 (.lkB (Rh m) 101 (.sc (.string k)) false (.sc (.bool b))):=by
 subst h
 exact VI (vv:=(fun n=>.sc (.bool n))) iY hO ZV (z:=false) tM m k
theorem MJ (m:Mm ByteArray Bool) (k:ByteArray) (v:Bool):Cd.ok P G0 (.msB (Rh m) 101 (.sc (.string k)) (.sc (.bool v)) (Rh (m.set k v))):=VE (vv:=(fun n=>.sc (.bool n))) iY hO ZV m k v
theorem rN:P.underlying 102=some (.map 3 101):=by kernel_rfl
theorem qB:P.underlying 3=some (.int .i64):=by kernel_rfl
theorem Ix {es:List (Value×AV×Nat)} {cl j:Nat} {v:AV} {z:Int} (n:Int) (h:z=n) (hf:Li (.int .i64) (.int .i64 n) es 0=some (some (j,v))):Cd.ok P G0 (.lkB (.map es cl) 102 (.sc (.int .i64 z)) false v):=by
 subst h
 intro s id hg
 unfold EM
 simp [rN,qB,JE,hg,hf,plainKey]
theorem Yd {a b:ByteArray} {q:Bool} (h:some (BL a.data.toList b.data.toList)=some q) (x y:Operand):GG P .eql 9 x y (.sc (.string a)) (.sc (.string b))=some (.sc (.bool q)):=by
 rw [← KJ]
 cases h
 kernel_rfl
theorem VP {a b:Int} {q:Bool} (h:some (FV b a)=some q) (x y:Operand):GG P .gtr 3 x y (.sc (.int .i64 a)) (.sc (.int .i64 b))=some (.sc (.bool q)):=by
 rw [← KJ]
 cases h
 kernel_rfl
theorem sW {a b:Int} {q:Bool} (h:some (K2 a b)=some q) (x y:Operand):GG P .leq 3 x y (.sc (.int .i64 a)) (.sc (.int .i64 b))=some (.sc (.bool q)):=by
 rw [← KJ]
 cases h
 kernel_rfl
def Is:ByteArray:=⟨#[33,61]⟩
def O7:ByteArray:=⟨#[42]⟩
def K6:ByteArray:=⟨#[43]⟩
def H7:ByteArray:=⟨#[45]⟩
def Jm:ByteArray:=⟨#[47]⟩
def PQ:ByteArray:=⟨#[60]⟩
def Iu:ByteArray:=⟨#[60,61]⟩
def IF:ByteArray:=⟨#[61,61]⟩
def rC:ByteArray:=⟨#[69,85,82]⟩
def qP:ByteArray:=⟨#[85,83,68]⟩
def KY:ByteArray:=⟨#[97,109,111,117,110,116]⟩
def IK:ByteArray:=⟨#[97,110,100]⟩
def Wm:ByteArray:=⟨#[97,114,116]⟩
def Jj:ByteArray:=⟨#[97,114,116,105,99,108,101]⟩
def Tl:ByteArray:=⟨#[97,116]⟩
def NY:ByteArray:=⟨#[100,97,121]⟩
def KW:ByteArray:=⟨#[100,101,100,117,99,116]⟩
def Qe:ByteArray:=⟨#[101,97,114,110]⟩
def Q5:ByteArray:=⟨#[102,97,99,116]⟩
def Np:ByteArray:=⟨#[102,97,108,115,101]⟩
def M0:ByteArray:=⟨#[102,108,111,111,114]⟩
def V4:ByteArray:=⟨#[102,111,114]⟩
def EY:ByteArray:=⟨#[102,114,101,115,104,95,49]⟩
def Q0:ByteArray:=⟨#[102,114,111,109]⟩
def D8:ByteArray:=⟨#[103,114,101,97,116,101,115,116]⟩
def QY:ByteArray:=⟨#[105,110,102,111]⟩
def Ni:ByteArray:=⟨#[107,110,111,119,110]⟩
def GP:ByteArray:=⟨#[108,101,97,115,116]⟩
def QS:ByteArray:=⟨#[108,105,110,101]⟩
def WS:ByteArray:=⟨#[109,105,110]⟩
def Cm:ByteArray:=⟨#[109,105,110,117,116,101,115]⟩
def Ht:ByteArray:=⟨#[109,111,110,116,104]⟩
def V7:ByteArray:=⟨#[110,111,116]⟩
def By:ByteArray:=⟨#[110,117,109,98,101,114]⟩
def Sl:ByteArray:=⟨#[111,114]⟩
def QE:ByteArray:=⟨#[114,97,110,107]⟩
def MW:ByteArray:=⟨#[116,97,98,108,101]⟩
def oQ:ByteArray:=⟨#[116,111]⟩
def QU:ByteArray:=⟨#[116,114,117,101]⟩
def A3:ByteArray:=⟨#[116,114,117,116,104]⟩
def KN:ByteArray:=⟨#[117,110,108,101,115,115]⟩
def EA:ByteArray:=⟨#[119,101,101,107,100,97,121]⟩
def QO:ByteArray:=⟨#[119,104,101,110]⟩
def JZ:ByteArray:=⟨#[121,101,97,114]⟩
end Mo
end Go.Proofs.YtkfplcngmiljaaaGreatDoor
namespace Go.Proofs.YtkfplcngmiljaaaGreatDoor
open AI Go
namespace Mo
set_option maxRecDepth 100000
set_option maxHeartbeats 4000000
def nI (x:Pc):Prop:=(-9223372036854775808≤x.fr∧x.fr≤9223372036854775807)∧(-9223372036854775808≤x.att∧x.att≤9223372036854775807)∧(-9223372036854775808≤x.slope∧x.slope≤9223372036854775807)
def fF (x:Fn):Prop:=x.ps.length≤9223372036854775807∧(∀ y∈x.ps,nI y)
mutual
def CX:Nd→Prop
 | ⟨kind,name,unit,n,fr,to,known,tab,kids,att⟩=>fF tab∧kids.length≤9223372036854775807∧S9 kids
def S9:List Nd→Prop
 | []=>True
 | k::ks=>CX k∧S9 ks
end
theorem Qb {l:List Nd}:S9 l↔∀ k∈l,CX k:=by
 induction l with
 | nil=>simp [S9]
 | cons k l ih=>simp [S9,ih]
theorem LP (x:Nd):CX x↔fF x.tab∧x.kids.length≤9223372036854775807∧∀ y∈x.kids,CX y:=by
 cases x;rw [CX,Qb]
end Mo
end Go.Proofs.YtkfplcngmiljaaaGreatDoor
