/- Part of a proof: see the last text. -/
import Derived.Test.YtkfplcngmiljaaaGreatDoorUug
import Derived.Test.YtkfplcngmiljaaaGreatDoorProg
import Derived.KernelRfl
set_option linter.unusedVariables false
set_option linter.unusedSimpArgs false
namespace Go.Proofs.YtkfplcngmiljaaaGreatDoor
open AI Go
namespace Hd
def G:AG:=fun _=>none
theorem mixed:Tryz.prog.follows .mixedOrders=true:=by kernel_rfl
theorem Ac (g:Nat) (cs:List AV) (h:G g=some cs):AW cs=true:=by cases h
end Hd
end Go.Proofs.YtkfplcngmiljaaaGreatDoor
namespace Go.Proofs.YtkfplcngmiljaaaGreatDoor
open AI Go
namespace Mo
noncomputable abbrev P:Program:=Tryz.prog
abbrev G:AG:=Hd.G
noncomputable abbrev X:Lk:=XS P G
variable {G0:AG}
theorem F6 {i n:Nat} (h:i < n):FQ ((i:Nat):Int) ((n:Nat):Int)=true:=by rw [Kz];simp;exact h
theorem IG {i n:Nat} (h:n≤i):FQ ((i:Nat):Int) ((n:Nat):Int)=false:=by rw [Kz];simp;omega
theorem Gf {a b:Int} (h:Bs a b=true):a=b:=by rw [JL] at h;simpa using h
theorem Nu {a b:Int} (h:FQ a b=true):a < b:=by rw [Kz] at h;exact of_decide_eq_true h
theorem XV {a b:Int} (h:FQ a b=false):b≤a:=by rw [Kz] at h;have:=of_decide_eq_false h;omega
theorem Ae {β:Type} {b:Bool} {t f:Option β} {r:β} {X:Prop} (h1:b=true→t=some r→X) (h2:b=false→f=some r→X):cond b t f=some r→X:=fun h=>(u5 h).elim (fun x=>h1 x.1 x.2) fun x=>h2 x.1 x.2
theorem Aj {β κ:Type} {m:Option κ} {k:κ→Option β} {r:β} {X:Prop} (h1:∀ y,m=some y→k y=some r→X):m.bind k=some r→X:=fun h=>(VW h).elim fun y x=>h1 y x.1 x.2
theorem Hs {β:Type} {n:Nat} {x:Option β} {r:β} {X:Prop} (h1:n≤100000000→x=some r→X):LZ n x=some r→X:=fun h=>h1 (gF h).1 (gF h).2
theorem o0 {β:Type} {r:β} {X:Prop}:(none:Option β)=some r→X:=fun h=>nomatch h
theorem iM {a b:Int} (h:a≠b):Bs a b=false:=by rw [JL];simpa using h
theorem p4 {a b:Int} (h:a < b):FQ a b=true:=by rw [Kz];exact decide_eq_true h
theorem gQ {a b:Int} (h:b≤a):FQ a b=false:=by rw [Kz];exact decide_eq_false (by omega)
def fq {n m:Nat} {a:AV} (h:plain a=true):FP n m:=⟨a,a,.plain h⟩
def fbp {n m:Nat} (a:List AV) (h:AW a=true):FB n m:=⟨.cells a,.cells a,.cells (.plain h)⟩
theorem rC {n:Nat} {l:List AV} (h:AW l=true):plain (.sl .lost n l)=true:=by simp only [plain,h];rfl
theorem iN {n:Nat} {l:List AV} (h:AW l=true):plain (.sl .full n l)=true:=by simp only [plain,h];rfl
theorem vL {n m:Nat} {f:Go.Fn} {a l:List AV} (h:CH n m a=true) (k:CH n m l=true):under n m (.fn f a l)=true:=by simp only [under,h,k];rfl
def inC (x:Int):List AV:=[.sc (.int .i64 x)]
def Kv (x:ByteArray):List AV:=[.sc (.string x)]
theorem A8:J5 Kv (rows Kv) 1:=⟨fun _=>rfl,fun _=>rfl,fun _=>rfl⟩
structure Pc where
 fr:Int
 att:Int
 slope:Int
def FC (x:Pc):List AV:=[.sc (.int .i64 x.fr),.sc (.int .i64 x.att),.sc (.int .i64 x.slope)]
theorem LJ:J5 FC (rows FC) 3:=⟨fun _=>rfl,fun _=>rfl,fun x=>(Bo rfl (Bo rfl (Bo rfl rfl)))⟩
structure Fn where
 den:Int
 ps:(List Pc)
def W6 (x:Fn):List AV:=[.sc (.int .i64 x.den),.sl .lost x.ps.length (rows FC x.ps)]
theorem Oj:J5 W6 (rows W6) 2:=⟨fun _=>rfl,fun _=>rfl,fun x=>(Bo rfl (Bo (LJ.EH x.ps) rfl))⟩
structure Nd where
 kind:Int
 name:ByteArray
 unit:ByteArray
 n:Int
 fr:Int
 to:Int
 known:Int
 tab:Fn
 kids:(List Nd)
 att:Int
mutual
def tN:Nd→List AV
 | ⟨kind,name,unit,n,fr,to,known,tab,kids,att⟩=>[.sc (.int .i64 kind),.sc (.string name),.sc (.string unit),.sc (.int .i64 n),.sc (.int .i64 fr),.sc (.int .i64 to),.sc (.int .i64 known),.sc (.int .i64 tab.den),.sl .lost tab.ps.length (rows FC tab.ps),.sl .lost kids.length (A7 kids),.sc (.int .i64 att)]
def A7:List Nd→List AV
 | []=>[]
 | k::ks=>tN k++A7 ks
end
def Ba (x:Nd):List AV:=[.sc (.int .i64 x.kind),.sc (.string x.name),.sc (.string x.unit),.sc (.int .i64 x.n),.sc (.int .i64 x.fr),.sc (.int .i64 x.to),.sc (.int .i64 x.known),.sc (.int .i64 x.tab.den),.sl .lost x.tab.ps.length (rows FC x.tab.ps),.sl .lost x.kids.length (A7 x.kids),.sc (.int .i64 x.att)]
theorem XA (x:Nd):tN x=Ba x:=by cases x;rfl
theorem US (l:List Nd):A7 l=rows Ba l:=by
 induction l with
 | nil=>rfl
 | cons k ks ih=>rw [FZ,A7,ih,XA]
mutual
theorem ZJ:∀ x:Nd,AW (tN x)=true
 | ⟨kind,name,unit,n,fr,to,known,tab,kids,att⟩=>by rw [tN];exact (Bo rfl (Bo rfl (Bo rfl (Bo rfl (Bo rfl (Bo rfl (Bo rfl (Bo rfl (Bo (LJ.EH tab.ps) (Bo (rC (VC kids)) (Bo rfl rfl)))))))))))
theorem VC:∀ l:List Nd,AW (A7 l)=true
 | []=>rfl
 | k::ks=>by rw [A7];exact gM (ZJ k) (VC ks)
end
theorem Am:J5 Ba A7 11:=⟨US,fun _=>rfl,fun x=>by rw [← XA];exact ZJ x⟩
structure Ex where
 op:Int
 n:Int
 unit:ByteArray
 tab:Fn
 kids:(List Ex)
mutual
def tX:Ex→List AV
 | ⟨op,n,unit,tab,kids⟩=>[.sc (.int .i64 op),.sc (.int .i64 n),.sc (.string unit),.sc (.int .i64 tab.den),.sl .lost tab.ps.length (rows FC tab.ps),.sl .lost kids.length (fH kids)]
def fH:List Ex→List AV
 | []=>[]
 | k::ks=>tX k++fH ks
end
mutual
theorem lE:∀ x:Ex,AW (tX x)=true
 | ⟨op,n,unit,tab,kids⟩=>by rw [tX];exact (Bo rfl (Bo rfl (Bo rfl (Bo rfl (Bo (LJ.EH tab.ps) (Bo (rC (Vn kids)) rfl))))))
theorem Vn:∀ l:List Ex,AW (fH l)=true
 | []=>rfl
 | k::ks=>by rw [fH];exact gM (lE k) (Vn ks)
end
structure Ar where
 number:Int
 line:Int
 rank:Int
 fr:Int
 to:Int
 known:Int
 wh:(List Ex)
 un:(List Int)
 am:Ex
structure Dc where
 name:ByteArray
 unit:ByteArray
 role:Int
structure Co where
 facts:(List Dc)
 lines:(List Dc)
 arts:(List Ar)
structure Tk where
 kind:Int
 text:ByteArray
 att:Int
structure Dg where
 err:Int
 att:Int
def DZ (x:Dg):List AV:=[.sc (.int .i64 x.err),.sc (.int .i64 x.att)]
theorem AZ:J5 DZ (rows DZ) 2:=⟨fun _=>rfl,fun _=>rfl,fun x=>(Bo rfl (Bo rfl rfl))⟩
structure Ps where
 l:(List Tk)
 at_:Int
 end_:Int
 err:Int
 errAt:Int
structure Ck where
 nodes:Int
def EP (x:Ck):List AV:=[.sc (.int .i64 x.nodes)]
theorem J2:J5 EP (rows EP) 1:=⟨fun _=>rfl,fun _=>rfl,fun x=>(Bo rfl rfl)⟩
structure Cq where
 src:Nd
 diags:(List Dg)
structure Ft where
 codex:Co
 lines:(Mm Int Int)
 nodes:Int
structure Sc where
 facts:(Mm ByteArray ByteArray)
 lines:(Mm ByteArray ByteArray)
 Ah:(Mm Int ByteArray)
structure Tr where
 codex:Co
 facts:(Mm ByteArray Int)
 lines:(Mm ByteArray Int)
 Ah:(Mm Int Int)
theorem yM:P.underlying 22=some (.slice 80):=by kernel_rfl
theorem x8:(P.info? 80).map (·.size)=some 3:=by kernel_rfl
theorem SH (own:Own) {l:List Pc} {i:Nat} {x:Pc} (h:l[i]?=some x):B0 P 22 (.sl own l.length (rows FC l)) (.sc (.int .i64 ((i:Nat):Int)))=some (.el (FC x++rows FC (l.drop (i+1)))):=LJ.ix yM x8 own h
theorem Zs (own:Own) {l:List Pc} {z:Int} {x:Pc} (h:RU l z=some x):B0 P 22 (.sl own l.length (rows FC l)) (.sc (.int .i64 z))=some (.el (FC x++rows FC (l.drop (z.toNat+1)))):=LJ.ixz yM x8 own h
theorem tK:P.underlying 25=some (.slice 27):=by kernel_rfl
theorem zH:(P.info? 27).map (·.size)=some 11:=by kernel_rfl
theorem i27:(P.info? 27).map (fun i=>(i.size,i.bytes,i.zero.map (·.cells.size)))=some (11,136,some 11):=by kernel_rfl
theorem Bz (own:Own) {l:List Nd} {i:Nat} {x:Nd} (h:l[i]?=some x):B0 P 25 (.sl own l.length (A7 l)) (.sc (.int .i64 ((i:Nat):Int)))=some (.el (Ba x++A7 (l.drop (i+1)))):=Am.ix tK zH own h
theorem Ip (own:Own) (l m:List Nd) {o:Own} {n:Nat} {ns:List AV} (hn:Wn ns (A7 m)) (hnn:n=m.length) (ho:ns.all one=true) (hm:m.length≠0) (hlen:l.length+m.length≤100000000):Cd.ok P G0 (.W5 25 25 own l.length (A7 l) (.sl o n ns) 11 (l++m).length (A7 (l++m))):=Am.W5 tK tK i27 (by decide) (by decide) own l m hn hnn ho hm hlen
theorem vQ:P.underlying 30=some (.slice 53):=by kernel_rfl
theorem s53:(P.info? 53).map (·.size)=some 2:=by kernel_rfl
theorem i53:(P.info? 53).map (fun i=>(i.size,i.bytes,i.zero.map (·.cells.size)))=some (2,16,some 2):=by kernel_rfl
theorem ZV (own:Own) {l:List Dg} {i:Nat} {x:Dg} (h:l[i]?=some x):B0 P 30 (.sl own l.length (rows DZ l)) (.sc (.int .i64 ((i:Nat):Int)))=some (.el (DZ x++rows DZ (l.drop (i+1)))):=AZ.ix vQ s53 own h
theorem qY (own:Own) (l m:List Dg) {o:Own} {n:Nat} {ns:List AV} (hn:Wn ns (rows DZ m)) (hnn:n=m.length) (ho:ns.all one=true) (hm:m.length≠0) (hlen:l.length+m.length≤100000000):Cd.ok P G0 (.W5 30 30 own l.length (rows DZ l) (.sl o n ns) 2 (l++m).length (rows DZ (l++m))):=AZ.W5 vQ vQ i53 (by decide) (by decide) own l m hn hnn ho hm hlen
theorem i5:(P.info? 5).map (fun i=>(i.size,i.bytes,i.zero.map (·.cells.size)))=some (1,1,some 1):=by kernel_rfl
theorem tF:P.underlying 96=some (.slice 9):=by kernel_rfl
theorem s9:(P.info? 9).map (·.size)=some 1:=by kernel_rfl
theorem r5 (own:Own) {l:List ByteArray} {i:Nat} {x:ByteArray} (h:l[i]?=some x):B0 P 96 (.sl own l.length (rows Kv l)) (.sc (.int .i64 ((i:Nat):Int)))=some (.el (Kv x++rows Kv (l.drop (i+1)))):=A8.ix tF s9 own h
theorem Yg {id n i:Nat} (h:i < n):B0 P 96 (.msl id 0 n) (.sc (.int .i64 ((i:Nat):Int)))=some (.ptr id (0+i*1)):=A8.zA tF s9 h
theorem Nh {id n i:Nat} {z:Int} (h:Lm n z=some i):B0 P 96 (.msl id 0 n) (.sc (.int .i64 z))=some (.ptr id (0+i*1)):=A8.uB tF s9 h
theorem Ny {l:List ByteArray} {i:Nat} {x:ByteArray} (h:l[i]?=some x):Cd.ok P G0 (.ldB (.cells (rows Kv l)) 9 (0+i*1) (.sc (.string x))):=A8.zV (by kernel_rfl) s9 h rfl
theorem pR {l:List ByteArray} {i:Nat} {x:ByteArray} (h:l[i]?=some x) (y:ByteArray):Cd.ok P G0 (.stB (.cells (rows Kv l)) 9 (0+i*1) (.sc (.string y)) (.cells (rows Kv (l.set i y)))):=A8.st s9 h y rfl rfl
theorem qF {n:Nat} (hn:n≤16777216):Cd.ok P G0 (.mkB 96 (.sc (.int .i64 ((n:Nat):Int))) (.sc (.int .i64 ((n:Nat):Int))) n (.cells (rows Kv (List.replicate n ByteArray.empty)))):=A8.made tF (by kernel_rfl) (by decide) hn
def jC (x y:Int):Int:=IntKind.i64.wrap (x.tdiv y)
def iO (x y:Int):Int:=x.tmod y
def YN (x y:Int):Option Int:=if y=0 then none else some (jC x y)
def PJ (x y:Int):Option Int:=if y=0 then none else some (iO x y)
def Jz {α:Type} (s:List α) (l h:Int):Option (List α):=if 0≤l∧l≤h∧h≤((s.length:Nat):Int) then some ((s.drop l.toNat).take (h.toNat - l.toNat)) else none
theorem XH (z:Int) (h:0≤z):J7 (.sc (.int .i64 z))=some z.toNat:=by unfold J7;simp [h]
theorem cB {a b c:Int} (h:YN a b=some c) (x y:Operand):Gz P .quo 3 x y (.sc (.int .i64 a)) (.sc (.int .i64 b))=some (.sc (.int .i64 c)):=by
 unfold YN at h
 split at h
 · cases h
 · rename_i hb
   cases h
   simp [Gz,LP,eqGuard,binOp,Op.intDiv,hb,AI.pv,PS,scalar,jC,Bind.bind,Sem.bind,Pure.pure]
theorem Q8 {a b c:Int} (h:PJ a b=some c) (x y:Operand):Gz P .rem 3 x y (.sc (.int .i64 a)) (.sc (.int .i64 b))=some (.sc (.int .i64 c)):=by
 unfold PJ at h
 split at h
 · cases h
 · rename_i hb
   cases h
   simp [Gz,LP,eqGuard,binOp,Op.intDiv,hb,AI.pv,PS,scalar,iO,Bind.bind,Sem.bind,Pure.pure]
theorem us9:P.underlying 9=some .string:=by kernel_rfl
theorem JF {s:ByteArray} {i:Nat} {c:UInt8} (h:s.data.toList[i]?=some c):GM P 9 (.sc (.string s)) (.sc (.int .i64 ((i:Nat):Int)))=some (.sc (.int .u8 ((c.toNat:Nat):Int))):=by
 unfold GM
 rw [us9,XH _ (by omega)]
 simp only [Int.toNat_natCast,h]
theorem aF (l h:Nat) {s:List Nd} (h1:l≤h) (h2:h≤s.length) (lo hi:Option AV) (e1:IX 0 lo=some l) (e2:IX s.length hi=some h):IA P 25 (.sl .lost s.length (A7 s)) lo hi none=some (.sl .lost ((s.drop l).take (h - l)).length (A7 ((s.drop l).take (h - l)))):=Am.sub tK zH l h h1 h2 lo hi e1 e2
theorem Gl {s v:List Nd} {l:Int} (e:Jz s l ((s.length:Nat):Int)=some v):IA P 25 (.sl .lost s.length (A7 s)) (some (.sc (.int .i64 l))) (none) none=some (.sl .lost v.length (A7 v)):=by
 unfold Jz at e
 split at e
 · rename_i hc
   cases e
   exact aF _ _ (by omega) (by omega) _ _ (XH l hc.1) rfl
 · cases e
def MX (x y:Pc):Bool:=x.fr == y.fr&&(x.att == y.att&&(x.slope == y.slope))
theorem T9 (x y:Pc):PT [.int .i64 x.fr,.int .i64 x.att,.int .i64 x.slope] [.int .i64 y.fr,.int .i64 y.att,.int .i64 y.slope]=some (MX x y):=by
 simp only [PT,nE,MX,if_true,Option.bind_some]
 cases (x.fr == y.fr)<;>cases (x.att == y.att)<;>cases (x.slope == y.slope)<;>rfl
theorem kT:Flat P 80 [1,1,1]:=⟨by kernel_rfl,by kernel_rfl,by kernel_rfl,by kernel_rfl,by kernel_rfl,by kernel_rfl⟩
theorem gE {x y:Pc} {b:Bool} (h:MX x y=b) (ox oy:Operand):Gz P .neq 80 ox oy (.agg (FC x)) (.agg (FC y))=some (.sc (.bool (!b))):=by
 subst h
 exact (kT.bin (us:=[.int .i64 x.fr,.int .i64 x.att,.int .i64 x.slope]) (vs:=[.int .i64 y.fr,.int .i64 y.att,.int .i64 y.slope]) ⟨.inl ⟨_,rfl,rfl⟩,⟨.inl ⟨_,rfl,rfl⟩,⟨.inl ⟨_,rfl,rfl⟩,trivial⟩⟩⟩ ⟨.inl ⟨_,rfl,rfl⟩,⟨.inl ⟨_,rfl,rfl⟩,⟨.inl ⟨_,rfl,rfl⟩,trivial⟩⟩⟩ (T9 x y) ox oy).2
def Nf (x y:Dg):Bool:=x.err == y.err&&(x.att == y.att)
theorem Ua (x y:Dg):PT [.int .i64 x.err,.int .i64 x.att] [.int .i64 y.err,.int .i64 y.att]=some (Nf x y):=by
 simp only [PT,nE,Nf,if_true,Option.bind_some]
 cases (x.err == y.err)<;>cases (x.att == y.att)<;>rfl
theorem iS:Flat P 53 [1,1]:=⟨by kernel_rfl,by kernel_rfl,by kernel_rfl,by kernel_rfl,by kernel_rfl,by kernel_rfl⟩
theorem hZ {x y:Dg} {b:Bool} (h:Nf x y=b) (ox oy:Operand):Gz P .neq 53 ox oy (.agg (DZ x)) (.agg (DZ y))=some (.sc (.bool (!b))):=by
 subst h
 exact (iS.bin (us:=[.int .i64 x.err,.int .i64 x.att]) (vs:=[.int .i64 y.err,.int .i64 y.att]) ⟨.inl ⟨_,rfl,rfl⟩,⟨.inl ⟨_,rfl,rfl⟩,trivial⟩⟩ ⟨.inl ⟨_,rfl,rfl⟩,⟨.inl ⟨_,rfl,rfl⟩,trivial⟩⟩ (Ua x y) ox oy).2
def A9 (m:Mm ByteArray ByteArray):AF:=mB (fun n=>.string n) (fun n=>.sc (.string n)) m
def AO {n l:Nat} (m:Mm ByteArray ByteArray):FO n l:=some ⟨A9 m,A9 m,JC fun _=>rfl⟩
theorem lD:P.underlying 40=some (.map 9 9):=by kernel_rfl
theorem nF:P.underlying 9=some (.string):=by kernel_rfl
theorem qR:E9 P 9=some (.sc (.string ByteArray.empty)):=by kernel_rfl
theorem eR (m:Mm ByteArray ByteArray) (k:ByteArray):Cd.ok P G0 (.lkB (A9 m) 40 (.sc (.string k)) false (.sc (.string ((m.get k).getD ByteArray.empty)))):=UB (vv:=(fun n=>.sc (.string n))) lD nF Y3 (z:=ByteArray.empty) qR m k
theorem Pe (m:Mm ByteArray ByteArray) (k:ByteArray) {b:Bool} (h:(m.get k).isSome=b):Cd.ok P G0 (.lkB (A9 m) 40 (.sc (.string k)) true (.Br [.sc (.string ((m.get k).getD ByteArray.empty)),.sc (.bool b)])):=XD (vv:=(fun n=>.sc (.string n))) lD nF Y3 (z:=ByteArray.empty) qR m k h
theorem pE (m:Mm ByteArray ByteArray) (k:ByteArray) (v:ByteArray):Cd.ok P G0 (.msB (A9 m) 40 (.sc (.string k)) (.sc (.string v)) (A9 (m.set k v))):=U4 (vv:=(fun n=>.sc (.string n))) lD nF Y3 m k v
def CO (m:Mm Int ByteArray):AF:=mB (fun n=>.int .i64 n) (fun n=>.sc (.string n)) m
def BE {n l:Nat} (m:Mm Int ByteArray):FO n l:=some ⟨CO m,CO m,JC fun _=>rfl⟩
theorem jY:P.underlying 58=some (.map 3 9):=by kernel_rfl
theorem lR:P.underlying 3=some ((.int .i64)):=by kernel_rfl
theorem sP:E9 P 9=some (.sc (.string ByteArray.empty)):=by kernel_rfl
theorem jN (m:Mm Int ByteArray) (k:Int):Cd.ok P G0 (.lkB (CO m) 58 (.sc (.int .i64 k)) false (.sc (.string ((m.get k).getD ByteArray.empty)))):=UB (vv:=(fun n=>.sc (.string n))) jY lR Zp (z:=ByteArray.empty) sP m k
theorem VD (m:Mm Int ByteArray) (k:Int) {b:Bool} (h:(m.get k).isSome=b):Cd.ok P G0 (.lkB (CO m) 58 (.sc (.int .i64 k)) true (.Br [.sc (.string ((m.get k).getD ByteArray.empty)),.sc (.bool b)])):=XD (vv:=(fun n=>.sc (.string n))) jY lR Zp (z:=ByteArray.empty) sP m k h
theorem wM (m:Mm Int ByteArray) (k:Int) (v:ByteArray):Cd.ok P G0 (.msB (CO m) 58 (.sc (.int .i64 k)) (.sc (.string v)) (CO (m.set k v))):=U4 (vv:=(fun n=>.sc (.string n))) jY lR Zp m k v
def T1 (m:Mm Int Int):AF:=mB (fun n=>.int .i64 n) (fun n=>.sc (.int .i64 n)) m
def K4 {n l:Nat} (m:Mm Int Int):FO n l:=some ⟨T1 m,T1 m,JC fun _=>rfl⟩
theorem fW:P.underlying 100=some (.map 3 3):=by kernel_rfl
theorem iG:P.underlying 3=some ((.int .i64)):=by kernel_rfl
theorem rF:E9 P 3=some (.sc (.int .i64 0)):=by kernel_rfl
theorem YU (m:Mm Int Int) (k:Int):Cd.ok P G0 (.lkB (T1 m) 100 (.sc (.int .i64 k)) false (.sc (.int .i64 ((m.get k).getD 0)))):=UB (vv:=(fun n=>.sc (.int .i64 n))) fW iG Zp (z:=0) rF m k
theorem sY (m:Mm Int Int) (k:Int) (v:Int):Cd.ok P G0 (.msB (T1 m) 100 (.sc (.int .i64 k)) (.sc (.int .i64 v)) (T1 (m.set k v))):=U4 (vv:=(fun n=>.sc (.int .i64 n))) fW iG Zp m k v
def Q6 (m:Mm ByteArray Bool):AF:=mB (fun n=>.string n) (fun n=>.sc (.bool n)) m
def FY {n l:Nat} (m:Mm ByteArray Bool):FO n l:=some ⟨Q6 m,Q6 m,JC fun _=>rfl⟩
theorem gT:P.underlying 101=some (.map 9 4):=by kernel_rfl
theorem gX:P.underlying 9=some (.string):=by kernel_rfl
theorem sI:E9 P 4=some (.sc (.bool false)):=by kernel_rfl
theorem Rj (m:Mm ByteArray Bool) (k:ByteArray) {b:Bool} (h:(m.get k).getD false=b):Cd.ok P G0 (.lkB (Q6 m) 101 (.sc (.string k)) false (.sc (.bool b))):=by
 subst h
 exact UB (vv:=(fun n=>.sc (.bool n))) gT gX Y3 (z:=false) sI m k
theorem Mw (m:Mm ByteArray Bool) (k:ByteArray) (v:Bool):Cd.ok P G0 (.msB (Q6 m) 101 (.sc (.string k)) (.sc (.bool v)) (Q6 (m.set k v))):=U4 (vv:=(fun n=>.sc (.bool n))) gT gX Y3 m k v
theorem pB:P.underlying 102=some (.map 3 101):=by kernel_rfl
theorem rT:P.underlying 3=some (.int .i64):=by kernel_rfl
theorem It {es:List (Value×AV×Nat)} {cl j:Nat} {v:AV} {z:Int} (n:Int) (h:z=n) (hf:Lb (.int .i64) (.int .i64 n) es 0=some (some (j,v))):Cd.ok P G0 (.lkB (.map es cl) 102 (.sc (.int .i64 z)) false v):=by
 subst h
 intro s id hg
 unfold EO
 simp [pB,rT,JP,hg,hf,plainKey]
theorem Zy {a b:ByteArray} {q:Bool} (h:some (BJ a.data.toList b.data.toList)=some q) (x y:Operand):Gz P .eql 9 x y (.sc (.string a)) (.sc (.string b))=some (.sc (.bool q)):=by
 rw [← Kl]
 cases h
 kernel_rfl
theorem VE {a b:Int} {q:Bool} (h:some (FQ b a)=some q) (x y:Operand):Gz P .gtr 3 x y (.sc (.int .i64 a)) (.sc (.int .i64 b))=some (.sc (.bool q)):=by
 rw [← Kl]
 cases h
 kernel_rfl
theorem sX {a b:Int} {q:Bool} (h:some (KT a b)=some q) (x y:Operand):Gz P .leq 3 x y (.sc (.int .i64 a)) (.sc (.int .i64 b))=some (.sc (.bool q)):=by
 rw [← Kl]
 cases h
 kernel_rfl
def IB:ByteArray:=⟨#[33,61]⟩
def Oi:ByteArray:=⟨#[42]⟩
def KV:ByteArray:=⟨#[43]⟩
def IY:ByteArray:=⟨#[45]⟩
def Jo:ByteArray:=⟨#[47]⟩
def On:ByteArray:=⟨#[60]⟩
def Iz:ByteArray:=⟨#[60,61]⟩
def Ir:ByteArray:=⟨#[61,61]⟩
def NM:ByteArray:=⟨#[69,85,82]⟩
def NS:ByteArray:=⟨#[85,83,68]⟩
def KK:ByteArray:=⟨#[97,109,111,117,110,116]⟩
def IH:ByteArray:=⟨#[97,110,100]⟩
def WM:ByteArray:=⟨#[97,114,116]⟩
def I9:ByteArray:=⟨#[97,114,116,105,99,108,101]⟩
def R7:ByteArray:=⟨#[97,116]⟩
def NQ:ByteArray:=⟨#[100,97,121]⟩
def KE:ByteArray:=⟨#[100,101,100,117,99,116]⟩
def Qt:ByteArray:=⟨#[101,97,114,110]⟩
def QS:ByteArray:=⟨#[102,97,99,116]⟩
def Nj:ByteArray:=⟨#[102,97,108,115,101]⟩
def ML:ByteArray:=⟨#[102,108,111,111,114]⟩
def WW:ByteArray:=⟨#[102,111,114]⟩
def P8:ByteArray:=⟨#[102,114,111,109]⟩
def D5:ByteArray:=⟨#[103,114,101,97,116,101,115,116]⟩
def Qc:ByteArray:=⟨#[105,110,102,111]⟩
def Nc:ByteArray:=⟨#[107,110,111,119,110]⟩
def GH:ByteArray:=⟨#[108,101,97,115,116]⟩
def Qy:ByteArray:=⟨#[108,105,110,101]⟩
def WT:ByteArray:=⟨#[109,105,110]⟩
def Cm:ByteArray:=⟨#[109,105,110,117,116,101,115]⟩
def Hk:ByteArray:=⟨#[109,111,110,116,104]⟩
def V6:ByteArray:=⟨#[110,111,116]⟩
def By:ByteArray:=⟨#[110,117,109,98,101,114]⟩
def Sy:ByteArray:=⟨#[111,114]⟩
def Qh:ByteArray:=⟨#[114,97,110,107]⟩
def MQ:ByteArray:=⟨#[116,97,98,108,101]⟩
def n9:ByteArray:=⟨#[116,111]⟩
def Qa:ByteArray:=⟨#[116,114,117,101]⟩
def A3:ByteArray:=⟨#[116,114,117,116,104]⟩
def KD:ByteArray:=⟨#[117,110,108,101,115,115]⟩
def EB:ByteArray:=⟨#[119,101,101,107,100,97,121]⟩
def Qg:ByteArray:=⟨#[119,104,101,110]⟩
def JU:ByteArray:=⟨#[121,101,97,114]⟩
end Mo
end Go.Proofs.YtkfplcngmiljaaaGreatDoor
namespace Go.Proofs.YtkfplcngmiljaaaGreatDoor
open AI Go
namespace Mo
set_option maxRecDepth 100000
set_option maxHeartbeats 4000000
def kD (x:Pc):Prop:=(-9223372036854775808≤x.fr∧x.fr≤9223372036854775807)∧(-9223372036854775808≤x.att∧x.att≤9223372036854775807)∧(-9223372036854775808≤x.slope∧x.slope≤9223372036854775807)
def dQ (x:Fn):Prop:=x.ps.length≤9223372036854775807∧(∀ y∈x.ps,kD y)
mutual
def C8:Nd→Prop
 | ⟨kind,name,unit,n,fr,to,known,tab,kids,att⟩=>dQ tab∧kids.length≤9223372036854775807∧SN kids
def SN:List Nd→Prop
 | []=>True
 | k::ks=>C8 k∧SN ks
end
theorem QF {l:List Nd}:SN l↔∀ k∈l,C8 k:=by
 induction l with
 | nil=>simp [SN]
 | cons k l ih=>simp [SN,ih]
theorem LU (x:Nd):C8 x↔dQ x.tab∧x.kids.length≤9223372036854775807∧∀ y∈x.kids,C8 y:=by
 cases x;rw [C8,QF]
end Mo
end Go.Proofs.YtkfplcngmiljaaaGreatDoor
