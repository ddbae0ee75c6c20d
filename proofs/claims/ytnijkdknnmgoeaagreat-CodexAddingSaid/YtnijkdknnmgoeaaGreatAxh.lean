/- Part of a proof: see the last text. -/
import Derived.Test.YtnijkdknnmgoeaaGreatAxg
import Derived.Test.YtnijkdknnmgoeaaGreatProg
import Derived.KernelRfl
set_option linter.unusedVariables false
set_option linter.unusedSimpArgs false
namespace Go.Proofs.YtnijkdknnmgoeaaGreat
open AI Go
namespace Hd
def G:AY:=fun _=>none
theorem mixed:Tryz.prog.follows .mixedOrders=true:=by kernel_rfl
theorem Ab (g:Nat) (cs:List AV) (h:G g=some cs):Bc cs=true:=by cases h
end Hd
end Go.Proofs.YtnijkdknnmgoeaaGreat
namespace Go.Proofs.YtnijkdknnmgoeaaGreat
open AI Go
namespace Mo
noncomputable abbrev P:Program:=Tryz.prog
abbrev G:AY:=Hd.G
noncomputable abbrev X:Ki:=XS P G
variable {G0:AY}
theorem Gw {i n:Nat} (h:i < n):Fu ((i:Nat):Int) ((n:Nat):Int)=true:=by rw [IG];simp;exact h
theorem I3 {i n:Nat} (h:n≤i):Fu ((i:Nat):Int) ((n:Nat):Int)=false:=by rw [IG];simp;omega
theorem Fk {a b:Int} (h:CN a b=true):a=b:=by rw [IK] at h;simpa using h
theorem W0 {a b:Int} (h:CN a b=false):a≠b:=by rw [IK] at h;simpa using h
theorem LJ {a b:Int} (h:Fu a b=true):a < b:=by rw [IG] at h;exact of_decide_eq_true h
theorem VE {a b:Int} (h:Fu a b=false):b≤a:=by rw [IG] at h;have:=of_decide_eq_false h;omega
theorem Ai {β:Type} {b:Bool} {t f:Option β} {r:β} {X:Prop} (h1:b=true→t=some r→X) (h2:b=false→f=some r→X):cond b t f=some r→X:=fun h=>(qF h).elim (fun x=>h1 x.1 x.2) fun x=>h2 x.1 x.2
theorem AB {β κ:Type} {m:Option κ} {k:κ→Option β} {r:β} {X:Prop} (h1:∀ y,m=some y→k y=some r→X):m.bind k=some r→X:=fun h=>(Uf h).elim fun y x=>h1 y x.1 x.2
theorem GJ {β:Type} {n:Nat} {x:Option β} {r:β} {X:Prop} (h1:n≤100000000→x=some r→X):Hy n x=some r→X:=fun h=>h1 (bX h).1 (bX h).2
theorem nT {β:Type} {r:β} {X:Prop}:(none:Option β)=some r→X:=fun h=>nomatch h
theorem bP {a b:Int} (h:a≠b):CN a b=false:=by rw [IK];simpa using h
theorem oW {a b:Int} (h:a < b):Fu a b=true:=by rw [IG];exact decide_eq_true h
theorem oM {a b:Int} (h:b≤a):Fu a b=false:=by rw [IG];exact decide_eq_false (by omega)
def fq {n m:Nat} {a:AV} (h:plain a=true):FP n m:=⟨a,a,.plain h⟩
def yW {n m:Nat} (a:List AV) (h:Bc a=true):FB n m:=⟨.cells a,.cells a,.cells (.plain h)⟩
def zH {n m:Nat} (a:List AV) (h:Cr n m a=true):FB n m:=⟨.cells a,.cells a,.cells (.under h)⟩
theorem mT {n:Nat} {l:List AV} (h:Bc l=true):plain (.sl .lost n l)=true:=by simp only [plain,h];rfl
theorem FV {n:Nat} {l:List AV} (h:Bc l=true):plain (.sl .full n l)=true:=by simp only [plain,h];rfl
theorem CY {n m r sz k:Nat} {l:List AV} (h:decide (r < m)=true) (t:Cr n m l=true):under n m (.sl (.row r sz) k l)=true:=by simp only [under,h,t];rfl
theorem rG {n m:Nat} {f:Go.Fn} {a l:List AV} (h:Cr n m a=true) (k:Cr n m l=true):under n m (.fn f a l)=true:=by simp only [under,h,k];rfl
def Lz (x:Int):List AV:=[.sc (.int .i64 x)]
def KM (x:ByteArray):List AV:=[.sc (.string x)]
theorem FH:GI Lz (rows Lz) 1:=⟨fun _=>rfl,fun _=>rfl,fun _=>rfl⟩
theorem Bz:GI KM (rows KM) 1:=⟨fun _=>rfl,fun _=>rfl,fun _=>rfl⟩
structure Pc where
 fr:Int
 att:Int
 slope:Int
def EC (x:Pc):List AV:=[.sc (.int .i64 x.fr),.sc (.int .i64 x.att),.sc (.int .i64 x.slope)]
theorem EL:GI EC (rows EC) 3:=⟨fun _=>rfl,fun _=>rfl,fun x=>(Bi rfl (Bi rfl (Bi rfl rfl)))⟩
structure Fn where
 den:Int
 ps:(List Pc)
def RK (x:Fn):List AV:=[.sc (.int .i64 x.den),.sl .lost x.ps.length (rows EC x.ps)]
theorem QG:GI RK (rows RK) 2:=⟨fun _=>rfl,fun _=>rfl,fun x=>(Bi rfl (Bi (EL.CI x.ps) rfl))⟩
structure Nd where
 kind:Int
 name:ByteArray
 unit:ByteArray
 n:Int
 fr:Int
 to:Int
 known:Int
 tab:Fn
 kids:(List Nd)
 att:Int
mutual
def pS:Nd→List AV
 | ⟨kind,name,unit,n,fr,to,known,tab,kids,att⟩=>[.sc (.int .i64 kind),.sc (.string name),.sc (.string unit),.sc (.int .i64 n),.sc (.int .i64 fr),.sc (.int .i64 to),.sc (.int .i64 known),.sc (.int .i64 tab.den),.sl .lost tab.ps.length (rows EC tab.ps),.sl .lost kids.length (B5 kids),.sc (.int .i64 att)]
def B5:List Nd→List AV
 | []=>[]
 | k::ks=>pS k++B5 ks
end
def Bq (x:Nd):List AV:=[.sc (.int .i64 x.kind),.sc (.string x.name),.sc (.string x.unit),.sc (.int .i64 x.n),.sc (.int .i64 x.fr),.sc (.int .i64 x.to),.sc (.int .i64 x.known),.sc (.int .i64 x.tab.den),.sl .lost x.tab.ps.length (rows EC x.tab.ps),.sl .lost x.kids.length (B5 x.kids),.sc (.int .i64 x.att)]
theorem Xn (x:Nd):pS x=Bq x:=by cases x;rfl
theorem Tq (l:List Nd):B5 l=rows Bq l:=by
 induction l with
 | nil=>rfl
 | cons k ks ih=>rw [EW,B5,ih,Xn]
mutual
theorem Vd:∀ x:Nd,Bc (pS x)=true
 | ⟨kind,name,unit,n,fr,to,known,tab,kids,att⟩=>by rw [pS];exact (Bi rfl (Bi rfl (Bi rfl (Bi rfl (Bi rfl (Bi rfl (Bi rfl (Bi rfl (Bi (EL.CI tab.ps) (Bi (mT (TG kids)) (Bi rfl rfl)))))))))))
theorem TG:∀ l:List Nd,Bc (B5 l)=true
 | []=>rfl
 | k::ks=>by rw [B5];exact Wd (Vd k) (TG ks)
end
theorem Au:GI Bq B5 11:=⟨Tq,fun _=>rfl,fun x=>by rw [← Xn];exact Vd x⟩
structure Ex where
 op:Int
 n:Int
 unit:ByteArray
 tab:Fn
 kids:(List Ex)
mutual
def pM:Ex→List AV
 | ⟨op,n,unit,tab,kids⟩=>[.sc (.int .i64 op),.sc (.int .i64 n),.sc (.string unit),.sc (.int .i64 tab.den),.sl .lost tab.ps.length (rows EC tab.ps),.sl .lost kids.length (Bs kids)]
def Bs:List Ex→List AV
 | []=>[]
 | k::ks=>pM k++Bs ks
end
def DM (x:Ex):List AV:=[.sc (.int .i64 x.op),.sc (.int .i64 x.n),.sc (.string x.unit),.sc (.int .i64 x.tab.den),.sl .lost x.tab.ps.length (rows EC x.tab.ps),.sl .lost x.kids.length (Bs x.kids)]
theorem Xu (x:Ex):pM x=DM x:=by cases x;rfl
theorem YM (l:List Ex):Bs l=rows DM l:=by
 induction l with
 | nil=>rfl
 | cons k ks ih=>rw [EW,Bs,ih,Xu]
mutual
theorem Wy:∀ x:Ex,Bc (pM x)=true
 | ⟨op,n,unit,tab,kids⟩=>by rw [pM];exact (Bi rfl (Bi rfl (Bi rfl (Bi rfl (Bi (EL.CI tab.ps) (Bi (mT (Tz kids)) rfl))))))
theorem Tz:∀ l:List Ex,Bc (Bs l)=true
 | []=>rfl
 | k::ks=>by rw [Bs];exact Wd (Wy k) (Tz ks)
end
theorem Br:GI DM Bs 6:=⟨YM,fun _=>rfl,fun x=>by rw [← Xu];exact Wy x⟩
structure Ar where
 number:Int
 line:Int
 rank:Int
 fr:Int
 to:Int
 known:Int
 wh:(List Ex)
 un:(List Int)
 am:Ex
def Kp (x:Ar):List AV:=[.sc (.int .i64 x.number),.sc (.int .i64 x.line),.sc (.int .i64 x.rank),.sc (.int .i64 x.fr),.sc (.int .i64 x.to),.sc (.int .i64 x.known),.sl .lost x.wh.length (Bs x.wh),.sl .lost x.un.length (rows Lz x.un),.sc (.int .i64 x.am.op),.sc (.int .i64 x.am.n),.sc (.string x.am.unit),.sc (.int .i64 x.am.tab.den),.sl .lost x.am.tab.ps.length (rows EC x.am.tab.ps),.sl .lost x.am.kids.length (Bs x.am.kids)]
theorem HL:GI Kp (rows Kp) 14:=⟨fun _=>rfl,fun _=>rfl,fun x=>(Bi rfl (Bi rfl (Bi rfl (Bi rfl (Bi rfl (Bi rfl (Bi (Br.CI x.wh) (Bi (FH.CI x.un) (Wd (Br.pl x.am) rfl)))))))))⟩
structure Dc where
 name:ByteArray
 unit:ByteArray
 role:Int
def Eb (x:Dc):List AV:=[.sc (.string x.name),.sc (.string x.unit),.sc (.int .i64 x.role)]
theorem CU:GI Eb (rows Eb) 3:=⟨fun _=>rfl,fun _=>rfl,fun x=>(Bi rfl (Bi rfl (Bi rfl rfl)))⟩
structure Co where
 facts:(List Dc)
 lines:(List Dc)
 arts:(List Ar)
def W3 (x:Co):List AV:=[.sl .lost x.facts.length (rows Eb x.facts),.sl .lost x.lines.length (rows Eb x.lines),.sl .lost x.arts.length (rows Kp x.arts)]
theorem KY:GI W3 (rows W3) 3:=⟨fun _=>rfl,fun _=>rfl,fun x=>(Bi (CU.CI x.facts) (Bi (CU.CI x.lines) (Bi (HL.CI x.arts) rfl)))⟩
structure Tk where
 kind:Int
 text:ByteArray
 att:Int
structure Dg where
 err:Int
 att:Int
def CA (x:Dg):List AV:=[.sc (.int .i64 x.err),.sc (.int .i64 x.att)]
theorem A7:GI CA (rows CA) 2:=⟨fun _=>rfl,fun _=>rfl,fun x=>(Bi rfl (Bi rfl rfl))⟩
structure Ps where
 l:(List Tk)
 at_:Int
 end_:Int
 err:Int
 errAt:Int
structure Ck where
 nodes:Int
def EB (x:Ck):List AV:=[.sc (.int .i64 x.nodes)]
theorem IT:GI EB (rows EB) 1:=⟨fun _=>rfl,fun _=>rfl,fun x=>(Bi rfl rfl)⟩
structure Cq where
 src:Nd
 diags:(List Dg)
structure Ft where
 codex:Co
 lines:(Mm Int Int)
 nodes:Int
structure Sc where
 facts:(Mm ByteArray ByteArray)
 lines:(Mm ByteArray ByteArray)
 Aa:(Mm Int ByteArray)
structure Tr where
 codex:Co
 facts:(Mm ByteArray Int)
 lines:(Mm ByteArray Int)
 Aa:(Mm Int Int)
def Bw (r0 r1 r2 r3 r4 r5:Nat) (x:Tr):List AV:=[.sl (.row r0 3) x.codex.facts.length (rows Eb x.codex.facts),.sl (.row r1 3) x.codex.lines.length (rows Eb x.codex.lines),.sl (.row r2 14) x.codex.arts.length (rows Kp x.codex.arts),.mp r3,.mp r4,.mp r5]
theorem Fh {k j:Nat} {ρ σ:Nat→Nat} {r0 r1 r2 r3 r4 r5:Nat} (x:Tr) (h0:r0 < j) (h1:r1 < j) (h2:r2 < j) (h3:r3 < k) (h4:r4 < k) (h5:r5 < k):Kn k j ρ σ (Bw r0 r1 r2 r3 r4 r5 x) (Bw (σ r0) (σ r1) (σ r2) (ρ r3) (ρ r4) (ρ r5) x):=(.cons (.row h0 (CU.Bi x.codex.facts)) (.cons (.row h1 (CU.Bi x.codex.lines)) (.cons (.row h2 (HL.Bi x.codex.arts)) (.cons (.mp h3) (.cons (.mp h4) (.cons (.mp h5) .nil))))))
theorem BY {n m:Nat} {r0 r1 r2 r3 r4 r5:Nat} {x:Tr} (h0:decide (r0 < m)=true) (h1:decide (r1 < m)=true) (h2:decide (r2 < m)=true) (h3:decide (r3 < n)=true) (h4:decide (r4 < n)=true) (h5:decide (r5 < n)=true):Cr n m (Bw r0 r1 r2 r3 r4 r5 x)=true:=(BE (CY h0 (Aj _ _ (CU.Bi x.codex.facts))) (BE (CY h1 (Aj _ _ (CU.Bi x.codex.lines))) (BE (CY h2 (Aj _ _ (HL.Bi x.codex.arts))) (BE h3 (BE h4 (BE h5 rfl))))))
theorem j6:P.underlying 22=some (.slice 138):=by kernel_rfl
theorem lD:(P.info? 138).map (·.size)=some 3:=by kernel_rfl
theorem i138:(P.info? 138).map (fun i=>(i.size,i.bytes,i.zero.map (·.cells.size)))=some (3,24,some 3):=by kernel_rfl
theorem M4 (own:Own) {l:List Pc} {i:Nat} {x:Pc} (h:l[i]?=some x):BV P 22 (.sl own l.length (rows EC l)) (.sc (.int .i64 ((i:Nat):Int)))=some (.el (EC x++rows EC (l.drop (i+1)))):=EL.ix j6 lD own h
theorem mF (own:Own) {l:List Pc} {z:Int} {x:Pc} (h:Hi l z=some x):BV P 22 (.sl own l.length (rows EC l)) (.sc (.int .i64 z))=some (.el (EC x++rows EC (l.drop (z.toNat+1)))):=EL.vN j6 lD own h
theorem pI (own:Own) (l m:List Pc) {o:Own} (hm:¬ m.length=0) (hlen:l.length+m.length≤100000000):Cd.ok P G0 (.LY 22 22 own l.length (rows EC l) (.sl o m.length (rows EC m)) 3 (l++m).length (rows EC (l++m))):=EL.LY j6 j6 i138 (by decide) (by decide) own l m (Wn.refl _) rfl (EL.Rm (fun _=>rfl) m) hm hlen
theorem r9 (own:Own) (l m:List Pc) {o:Own} (s:AS) (hm:m.length=0) (hlen:l.length+m.length≤100000000):Cd.ok P G0 (.LR s 22 22 (.sl own l.length (rows EC l)) (.sl o m.length (rows EC m)) (.sl own l.length (rows EC l)) s):=EL.ga j6 j6 i138 (by decide) (by decide) own l m s hm hlen
theorem aE:P.underlying 25=some (.slice 27):=by kernel_rfl
theorem tW:(P.info? 27).map (·.size)=some 11:=by kernel_rfl
theorem i27:(P.info? 27).map (fun i=>(i.size,i.bytes,i.zero.map (·.cells.size)))=some (11,136,some 11):=by kernel_rfl
theorem Dp (own:Own) {l:List Nd} {i:Nat} {x:Nd} (h:l[i]?=some x):BV P 25 (.sl own l.length (B5 l)) (.sc (.int .i64 ((i:Nat):Int)))=some (.el (Bq x++B5 (l.drop (i+1)))):=Au.ix aE tW own h
theorem bE (own:Own) (l m:List Nd) {o:Own} {n:Nat} {ns:List AV} (hn:Wn ns (B5 m)) (hnn:n=m.length) (ho:ns.all one=true) (hm:m.length≠0) (hlen:l.length+m.length≤100000000):Cd.ok P G0 (.LY 25 25 own l.length (B5 l) (.sl o n ns) 11 (l++m).length (B5 (l++m))):=Au.LY aE aE i27 (by decide) (by decide) own l m hn hnn ho hm hlen
theorem mO (own:Own) (l m:List Nd) {o:Own} (hm:¬ m.length=0) (hlen:l.length+m.length≤100000000):Cd.ok P G0 (.LY 25 25 own l.length (B5 l) (.sl o m.length (B5 m)) 11 (l++m).length (B5 (l++m))):=Au.LY aE aE i27 (by decide) (by decide) own l m (Wn.refl _) rfl (Au.Rm (fun _=>rfl) m) hm hlen
theorem rY (own:Own) (l m:List Nd) {o:Own} (s:AS) (hm:m.length=0) (hlen:l.length+m.length≤100000000):Cd.ok P G0 (.LR s 25 25 (.sl own l.length (B5 l)) (.sl o m.length (B5 m)) (.sl own l.length (B5 l)) s):=Au.ga aE aE i27 (by decide) (by decide) own l m s hm hlen
theorem p7:P.underlying 28=some (.slice 57):=by kernel_rfl
theorem vZ:(P.info? 57).map (·.size)=some 3:=by kernel_rfl
theorem i57:(P.info? 57).map (fun i=>(i.size,i.bytes,i.zero.map (·.cells.size)))=some (3,40,some 3):=by kernel_rfl
theorem YJ (own:Own) {l:List Dc} {i:Nat} {x:Dc} (h:l[i]?=some x):BV P 28 (.sl own l.length (rows Eb l)) (.sc (.int .i64 ((i:Nat):Int)))=some (.el (Eb x++rows Eb (l.drop (i+1)))):=CU.ix p7 vZ own h
theorem aD (own:Own) {l:List Dc} {z:Int} {x:Dc} (h:Hi l z=some x):BV P 28 (.sl own l.length (rows Eb l)) (.sc (.int .i64 z))=some (.el (Eb x++rows Eb (l.drop (z.toNat+1)))):=CU.vN p7 vZ own h
theorem Z8 (own:Own) (l m:List Dc) {o:Own} {n:Nat} {ns:List AV} (hn:Wn ns (rows Eb m)) (hnn:n=m.length) (ho:ns.all one=true) (hm:m.length≠0) (hlen:l.length+m.length≤100000000):Cd.ok P G0 (.LY 28 28 own l.length (rows Eb l) (.sl o n ns) 3 (l++m).length (rows Eb (l++m))):=CU.LY p7 p7 i57 (by decide) (by decide) own l m hn hnn ho hm hlen
theorem pV:P.underlying 29=some (.slice 62):=by kernel_rfl
theorem wD:(P.info? 62).map (·.size)=some 14:=by kernel_rfl
theorem i62:(P.info? 62).map (fun i=>(i.size,i.bytes,i.zero.map (·.cells.size)))=some (14,184,some 14):=by kernel_rfl
theorem mQ (own:Own) {l:List Ar} {i:Nat} {x:Ar} (h:l[i]?=some x):BV P 29 (.sl own l.length (rows Kp l)) (.sc (.int .i64 ((i:Nat):Int)))=some (.el (Kp x++rows Kp (l.drop (i+1)))):=HL.ix pV wD own h
theorem nZ (own:Own) (l m:List Ar) {o:Own} {n:Nat} {ns:List AV} (hn:Wn ns (rows Kp m)) (hnn:n=m.length) (ho:ns.all one=true) (hm:m.length≠0) (hlen:l.length+m.length≤100000000):Cd.ok P G0 (.LY 29 29 own l.length (rows Kp l) (.sl o n ns) 14 (l++m).length (rows Kp (l++m))):=HL.LY pV pV i62 (by decide) (by decide) own l m hn hnn ho hm hlen
theorem aS:P.underlying 35=some (.slice 52):=by kernel_rfl
theorem uL:(P.info? 52).map (·.size)=some 2:=by kernel_rfl
theorem i52:(P.info? 52).map (fun i=>(i.size,i.bytes,i.zero.map (·.cells.size)))=some (2,16,some 2):=by kernel_rfl
theorem WK (own:Own) (l m:List Dg) {o:Own} {n:Nat} {ns:List AV} (hn:Wn ns (rows CA m)) (hnn:n=m.length) (ho:ns.all one=true) (hm:m.length≠0) (hlen:l.length+m.length≤100000000):Cd.ok P G0 (.LY 35 35 own l.length (rows CA l) (.sl o n ns) 2 (l++m).length (rows CA (l++m))):=A7.LY aS aS i52 (by decide) (by decide) own l m hn hnn ho hm hlen
theorem nF (own:Own) (l m:List Dg) {o:Own} (hm:¬ m.length=0) (hlen:l.length+m.length≤100000000):Cd.ok P G0 (.LY 35 35 own l.length (rows CA l) (.sl o m.length (rows CA m)) 2 (l++m).length (rows CA (l++m))):=A7.LY aS aS i52 (by decide) (by decide) own l m (Wn.refl _) rfl (A7.Rm (fun _=>rfl) m) hm hlen
theorem tE (own:Own) (l m:List Dg) {o:Own} (s:AS) (hm:m.length=0) (hlen:l.length+m.length≤100000000):Cd.ok P G0 (.LR s 35 35 (.sl own l.length (rows CA l)) (.sl o m.length (rows CA m)) (.sl own l.length (rows CA l)) s):=A7.ga aS aS i52 (by decide) (by decide) own l m s hm hlen
theorem rZ:P.underlying 40=some (.slice 3):=by kernel_rfl
theorem s3:(P.info? 3).map (·.size)=some 1:=by kernel_rfl
theorem i3:(P.info? 3).map (fun i=>(i.size,i.bytes,i.zero.map (·.cells.size)))=some (1,8,some 1):=by kernel_rfl
theorem XY (own:Own) {l:List Int} {i:Nat} {x:Int} (h:l[i]?=some x):BV P 40 (.sl own l.length (rows Lz l)) (.sc (.int .i64 ((i:Nat):Int)))=some (.el (Lz x++rows Lz (l.drop (i+1)))):=FH.ix rZ s3 own h
theorem pF (own:Own) (l m:List Int) {o:Own} {n:Nat} {ns:List AV} (hn:Wn ns (rows Lz m)) (hnn:n=m.length) (ho:ns.all one=true) (hm:m.length≠0) (hlen:l.length+m.length≤100000000):Cd.ok P G0 (.LY 40 40 own l.length (rows Lz l) (.sl o n ns) 1 (l++m).length (rows Lz (l++m))):=FH.LY rZ rZ i3 (by decide) (by decide) own l m hn hnn ho hm hlen
theorem tH:P.underlying 58=some (.slice 60):=by kernel_rfl
theorem zJ:(P.info? 60).map (·.size)=some 6:=by kernel_rfl
theorem i60:(P.info? 60).map (fun i=>(i.size,i.bytes,i.zero.map (·.cells.size)))=some (6,88,some 6):=by kernel_rfl
theorem Pb (own:Own) {l:List Ex} {i:Nat} {x:Ex} (h:l[i]?=some x):BV P 58 (.sl own l.length (Bs l)) (.sc (.int .i64 ((i:Nat):Int)))=some (.el (DM x++Bs (l.drop (i+1)))):=Br.ix tH zJ own h
theorem Tp (own:Own) (l m:List Ex) {o:Own} {n:Nat} {ns:List AV} (hn:Wn ns (Bs m)) (hnn:n=m.length) (ho:ns.all one=true) (hm:m.length≠0) (hlen:l.length+m.length≤100000000):Cd.ok P G0 (.LY 58 58 own l.length (Bs l) (.sl o n ns) 6 (l++m).length (Bs (l++m))):=Br.LY tH tH i60 (by decide) (by decide) own l m hn hnn ho hm hlen
theorem s4:(P.info? 4).map (·.size)=some 1:=by kernel_rfl
theorem i4:(P.info? 4).map (fun i=>(i.size,i.bytes,i.zero.map (·.cells.size)))=some (1,1,some 1):=by kernel_rfl
theorem jS:P.underlying 141=some (.slice 9):=by kernel_rfl
theorem s9:(P.info? 9).map (·.size)=some 1:=by kernel_rfl
theorem Sz {id n i:Nat} (h:i < n):BV P 141 (.msl id 0 n) (.sc (.int .i64 ((i:Nat):Int)))=some (.ptr id (0+i*1)):=Bz.vO jS s9 h
theorem JE {id n i:Nat} {z:Int} (h:Ke n z=some i):BV P 141 (.msl id 0 n) (.sc (.int .i64 z))=some (.ptr id (0+i*1)):=Bz.tK jS s9 h
theorem Jn {l:List ByteArray} {i:Nat} {x:ByteArray} (h:l[i]?=some x):Cd.ok P G0 (.ldB (.cells (rows KM l)) 9 (0+i*1) (.sc (.string x))):=Bz.yO (by kernel_rfl) s9 h rfl
theorem g9 {l:List ByteArray} {i:Nat} {x:ByteArray} (h:l[i]?=some x) (y:ByteArray):Cd.ok P G0 (.stB (.cells (rows KM l)) 9 (0+i*1) (.sc (.string y)) (.cells (rows KM (l.set i y)))):=Bz.st s9 h y rfl rfl
theorem gX {n:Nat} (hn:n≤16777216):Cd.ok P G0 (.mkB 141 (.sc (.int .i64 ((n:Nat):Int))) (.sc (.int .i64 ((n:Nat):Int))) n (.cells (rows KM (List.replicate n ByteArray.empty)))):=Bz.made jS (by kernel_rfl) (by decide) hn
def lL (x y:Int):Int:=x.tmod y
def R7 (x y:Int):Option Int:=if y=0 then none else some (lL x y)
def FZ {α:Type} (s:List α) (l h:Int):Option (List α):=if 0≤l∧l≤h∧h≤((s.length:Nat):Int) then some ((s.drop l.toNat).take (h.toNat - l.toNat)) else none
theorem MQ (z:Int) (h:0≤z):IW (.sc (.int .i64 z))=some z.toNat:=by unfold IW;simp [h]
theorem S2 {a b c:Int} (h:R7 a b=some c) (x y:Operand):Hx P .rem 3 x y (.sc (.int .i64 a)) (.sc (.int .i64 b))=some (.sc (.int .i64 c)):=by
 unfold R7 at h
 split at h
 · cases h
 · rename_i hb
   cases h
   simp [Hx,K7,LL,eqGuard,binOp,Op.intDiv,hb,AI.pv,Pd,scalar,lL,Bind.bind,Sem.bind,Pure.pure]
theorem yP:P.underlying 9=some .string:=by kernel_rfl
theorem Oi {s:ByteArray} {i:Nat} {c:UInt8} (h:s.data.toList[i]?=some c):F5 P 9 (.sc (.string s)) (.sc (.int .i64 ((i:Nat):Int)))=some (.sc (.int .u8 ((c.toNat:Nat):Int))):=by
 unfold F5
 rw [yP,MQ _ (by omega)]
 simp only [Int.toNat_natCast,h]
theorem YS (l h:Nat) {s:List Nd} (h1:l≤h) (h2:h≤s.length) (lo hi:Option AV) (e1:E3 0 lo=some l) (e2:E3 s.length hi=some h):Eh P 25 (.sl .lost s.length (B5 s)) lo hi none=some (.sl .lost ((s.drop l).take (h - l)).length (B5 ((s.drop l).take (h - l)))):=Au.sub aE tW l h h1 h2 lo hi e1 e2
theorem HH {s v:List Nd} {l:Int} (e:FZ s l ((s.length:Nat):Int)=some v):Eh P 25 (.sl .lost s.length (B5 s)) (some (.sc (.int .i64 l))) (none) none=some (.sl .lost v.length (B5 v)):=by
 unfold FZ at e
 split at e
 · rename_i hc
   cases e
   exact YS _ _ (by omega) (by omega) _ _ (MQ l hc.1) rfl
 · cases e
theorem ZH (l h:Nat) {s:List Ar} (h1:l≤h) (h2:h≤s.length) (lo hi:Option AV) (e1:E3 0 lo=some l) (e2:E3 s.length hi=some h):Eh P 29 (.sl .lost s.length (rows Kp s)) lo hi none=some (.sl .lost ((s.drop l).take (h - l)).length (rows Kp ((s.drop l).take (h - l)))):=HL.sub pV wD l h h1 h2 lo hi e1 e2
theorem Mi {s v:List Ar} {h:Int} (e:FZ s 0 h=some v):Eh P 29 (.sl .lost s.length (rows Kp s)) (none) (some (.sc (.int .i64 h))) none=some (.sl .lost v.length (rows Kp v)):=by
 unfold FZ at e
 split at e
 · rename_i hc
   cases e
   exact ZH _ _ (by omega) (by omega) _ _ rfl (MQ h (by omega))
 · cases e
theorem gC (own:Own) {s:List Dg} {h:Int} (e:CN h ((s.length:Nat):Int)=true):Eh P 35 (.sl own s.length (rows CA s)) none (some (.sc (.int .i64 h))) none=some (.sl own s.length (rows CA s)):=by
 have e:=Fk e
 exact A7.qE aS uL own _ ((MQ h (by omega)).trans (congrArg some (by omega)))
theorem dL (own:Own) {s v:List Dg} {h:Int} (e:FZ s 0 h=some v) (hn:CN h ((s.length:Nat):Int)=false):Eh P 35 (.sl own s.length (rows CA s)) none (some (.sc (.int .i64 h))) none=some (.sl .lost v.length (rows CA v)):=by
 have hn:=W0 hn
 unfold FZ at e
 split at e
 · rename_i hc
   cases e
   exact A7.tC aS uL own _ _ (by omega) (by omega) _ _ rfl (MQ h (by omega))
 · cases e
def II (x y:Pc):Bool:=x.fr == y.fr&&(x.att == y.att&&(x.slope == y.slope))
theorem Ru (x y:Pc):Of [.int .i64 x.fr,.int .i64 x.att,.int .i64 x.slope] [.int .i64 y.fr,.int .i64 y.att,.int .i64 y.slope]=some (II x y):=by
 simp only [Of,c5,II,if_true,Option.bind_some]
 cases (x.fr == y.fr)<;>cases (x.att == y.att)<;>cases (x.slope == y.slope)<;>rfl
theorem X9:Flat P 138 [1,1,1]:=⟨by kernel_rfl,by kernel_rfl,by kernel_rfl,by kernel_rfl,by kernel_rfl,by kernel_rfl⟩
theorem PY {x y:Pc} {b:Bool} (h:II x y=b) (ox oy:Operand):Hx P .neq 138 ox oy (.agg (EC x)) (.agg (EC y))=some (.sc (.bool (!b))):=by
 subst h
 exact (X9.bin (us:=[.int .i64 x.fr,.int .i64 x.att,.int .i64 x.slope]) (vs:=[.int .i64 y.fr,.int .i64 y.att,.int .i64 y.slope]) ⟨.inl ⟨_,rfl,rfl⟩,⟨.inl ⟨_,rfl,rfl⟩,⟨.inl ⟨_,rfl,rfl⟩,trivial⟩⟩⟩ ⟨.inl ⟨_,rfl,rfl⟩,⟨.inl ⟨_,rfl,rfl⟩,⟨.inl ⟨_,rfl,rfl⟩,trivial⟩⟩⟩ (Ru x y) ox oy).2
def Lg (x y:Dc):Bool:=x.name == y.name&&(x.unit == y.unit&&(x.role == y.role))
theorem SJ (x y:Dc):Of [.string x.name,.string x.unit,.int .i64 x.role] [.string y.name,.string y.unit,.int .i64 y.role]=some (Lg x y):=by
 simp only [Of,c5,Lg,if_true,Option.bind_some]
 cases (x.name == y.name)<;>cases (x.unit == y.unit)<;>cases (x.role == y.role)<;>rfl
theorem hY:Flat P 57 [2,2,1]:=⟨by kernel_rfl,by kernel_rfl,by kernel_rfl,by kernel_rfl,by kernel_rfl,by kernel_rfl⟩
theorem aU {x y:Dc} {b:Bool} (h:Lg x y=b) (ox oy:Operand):Hx P .neq 57 ox oy (.agg (Eb x)) (.agg (Eb y))=some (.sc (.bool (!b))):=by
 subst h
 exact (hY.bin (us:=[.string x.name,.string x.unit,.int .i64 x.role]) (vs:=[.string y.name,.string y.unit,.int .i64 y.role]) ⟨.inr ⟨_,rfl,rfl⟩,⟨.inr ⟨_,rfl,rfl⟩,⟨.inl ⟨_,rfl,rfl⟩,trivial⟩⟩⟩ ⟨.inr ⟨_,rfl,rfl⟩,⟨.inr ⟨_,rfl,rfl⟩,⟨.inl ⟨_,rfl,rfl⟩,trivial⟩⟩⟩ (SJ x y) ox oy).2
def Ah (m:Mm ByteArray Int):AT:=mB (fun n=>.string n) (fun n=>.sc (.int .i64 n)) m
def A9 {n l:Nat} (m:Mm ByteArray Int):FO n l:=some ⟨Ah m,Ah m,FQ fun _=>rfl⟩
theorem oY:P.underlying 82=some (.map 9 3):=by kernel_rfl
theorem mS:P.underlying 9=some (.string):=by kernel_rfl
theorem qR:Ev P 3=some (.sc (.int .i64 0)):=by kernel_rfl
theorem iR (m:Mm ByteArray Int) (k:ByteArray):Cd.ok P G0 (.lkB (Ah m) 82 (.sc (.string k)) false (.sc (.int .i64 ((m.get k).getD 0)))):=Q4 (vv:=(fun n=>.sc (.int .i64 n))) oY mS RL (z:=0) qR m k
theorem mG (m:Mm ByteArray Int) (k:ByteArray) (v:Int):Cd.ok P G0 (.msB (Ah m) 82 (.sc (.string k)) (.sc (.int .i64 v)) (Ah (m.set k v))):=QD (vv:=(fun n=>.sc (.int .i64 n))) oY mS RL m k v
def AQ (m:Mm Int Int):AT:=mB (fun n=>.int .i64 n) (fun n=>.sc (.int .i64 n)) m
def BH {n l:Nat} (m:Mm Int Int):FO n l:=some ⟨AQ m,AQ m,FQ fun _=>rfl⟩
theorem nN:P.underlying 83=some (.map 3 3):=by kernel_rfl
theorem mN:P.underlying 3=some ((.int .i64)):=by kernel_rfl
theorem sB:Ev P 3=some (.sc (.int .i64 0)):=by kernel_rfl
theorem ZQ (m:Mm Int Int) (k:Int):Cd.ok P G0 (.lkB (AQ m) 83 (.sc (.int .i64 k)) false (.sc (.int .i64 ((m.get k).getD 0)))):=Q4 (vv:=(fun n=>.sc (.int .i64 n))) nN mN V4 (z:=0) sB m k
theorem oP (m:Mm Int Int) (k:Int) (v:Int):Cd.ok P G0 (.msB (AQ m) 83 (.sc (.int .i64 k)) (.sc (.int .i64 v)) (AQ (m.set k v))):=QD (vv:=(fun n=>.sc (.int .i64 n))) nN mN V4 m k v
def Bp (m:Mm ByteArray ByteArray):AT:=mB (fun n=>.string n) (fun n=>.sc (.string n)) m
def A6 {n l:Nat} (m:Mm ByteArray ByteArray):FO n l:=some ⟨Bp m,Bp m,FQ fun _=>rfl⟩
theorem Wt:P.underlying 116=some (.map 9 9):=by kernel_rfl
theorem WD:P.underlying 9=some (.string):=by kernel_rfl
theorem bC:Ev P 9=some (.sc (.string ByteArray.empty)):=by kernel_rfl
theorem SQ (m:Mm ByteArray ByteArray) (k:ByteArray):Cd.ok P G0 (.lkB (Bp m) 116 (.sc (.string k)) false (.sc (.string ((m.get k).getD ByteArray.empty)))):=Q4 (vv:=(fun n=>.sc (.string n))) Wt WD RL (z:=ByteArray.empty) bC m k
theorem J0 (m:Mm ByteArray ByteArray) (k:ByteArray) {b:Bool} (h:(m.get k).isSome=b):Cd.ok P G0 (.lkB (Bp m) 116 (.sc (.string k)) true (.Bh [.sc (.string ((m.get k).getD ByteArray.empty)),.sc (.bool b)])):=WU (vv:=(fun n=>.sc (.string n))) Wt WD RL (z:=ByteArray.empty) bC m k h
theorem aF (m:Mm ByteArray ByteArray) (k:ByteArray) (v:ByteArray):Cd.ok P G0 (.msB (Bp m) 116 (.sc (.string k)) (.sc (.string v)) (Bp (m.set k v))):=QD (vv:=(fun n=>.sc (.string n))) Wt WD RL m k v
def CP (m:Mm Int ByteArray):AT:=mB (fun n=>.int .i64 n) (fun n=>.sc (.string n)) m
def BQ {n l:Nat} (m:Mm Int ByteArray):FO n l:=some ⟨CP m,CP m,FQ fun _=>rfl⟩
theorem WO:P.underlying 117=some (.map 3 9):=by kernel_rfl
theorem Xh:P.underlying 3=some ((.int .i64)):=by kernel_rfl
theorem b5:Ev P 9=some (.sc (.string ByteArray.empty)):=by kernel_rfl
theorem Vg (m:Mm Int ByteArray) (k:Int):Cd.ok P G0 (.lkB (CP m) 117 (.sc (.int .i64 k)) false (.sc (.string ((m.get k).getD ByteArray.empty)))):=Q4 (vv:=(fun n=>.sc (.string n))) WO Xh V4 (z:=ByteArray.empty) b5 m k
theorem PG (m:Mm Int ByteArray) (k:Int) {b:Bool} (h:(m.get k).isSome=b):Cd.ok P G0 (.lkB (CP m) 117 (.sc (.int .i64 k)) true (.Bh [.sc (.string ((m.get k).getD ByteArray.empty)),.sc (.bool b)])):=WU (vv:=(fun n=>.sc (.string n))) WO Xh V4 (z:=ByteArray.empty) b5 m k h
theorem lX (m:Mm Int ByteArray) (k:Int) (v:ByteArray):Cd.ok P G0 (.msB (CP m) 117 (.sc (.int .i64 k)) (.sc (.string v)) (CP (m.set k v))):=QD (vv:=(fun n=>.sc (.string n))) WO Xh V4 m k v
def PH (m:Mm ByteArray Bool):AT:=mB (fun n=>.string n) (fun n=>.sc (.bool n)) m
def Fl {n l:Nat} (m:Mm ByteArray Bool):FO n l:=some ⟨PH m,PH m,FQ fun _=>rfl⟩
theorem bF:P.underlying 131=some (.map 9 4):=by kernel_rfl
theorem bN:P.underlying 9=some (.string):=by kernel_rfl
theorem mZ:Ev P 4=some (.sc (.bool false)):=by kernel_rfl
theorem PA (m:Mm ByteArray Bool) (k:ByteArray) {b:Bool} (h:(m.get k).getD false=b):Cd.ok P G0 (.lkB (PH m) 131 (.sc (.string k)) false (.sc (.bool b))):=by
 subst h
 exact Q4 (vv:=(fun n=>.sc (.bool n))) bF bN RL (z:=false) mZ m k
theorem Ky (m:Mm ByteArray Bool) (k:ByteArray) (v:Bool):Cd.ok P G0 (.msB (PH m) 131 (.sc (.string k)) (.sc (.bool v)) (PH (m.set k v))):=QD (vv:=(fun n=>.sc (.bool n))) bF bN RL m k v
theorem oI:P.underlying 160=some (.map 3 131):=by kernel_rfl
theorem lZ:P.underlying 3=some (.int .i64):=by kernel_rfl
theorem Ha {es:List (Value×AV×Nat)} {cl j:Nat} {v:AV} {z:Int} (n:Int) (h:z=n) (hf:JV (.int .i64) (.int .i64 n) es 0=some (some (j,v))):Cd.ok P G0 (.lkB (.map es cl) 160 (.sc (.int .i64 z)) false v):=by
 subst h
 intro s id hg
 unfold DQ
 simp [oI,lZ,It,hg,hf,plainKey]
theorem pB {a b:Int} {q:Bool} (h:some (OB a b)=some q) (x y:Operand):Hx P .leq 3 x y (.sc (.int .i64 a)) (.sc (.int .i64 b))=some (.sc (.bool q)):=by
 rw [← Nj]
 cases h
 kernel_rfl
def Ls:ByteArray:=⟨#[33,61]⟩
def Ul:ByteArray:=⟨#[42]⟩
def NY:ByteArray:=⟨#[43]⟩
def UW:ByteArray:=⟨#[45]⟩
def Lq:ByteArray:=⟨#[47]⟩
def UT:ByteArray:=⟨#[60]⟩
def Ll:ByteArray:=⟨#[60,61]⟩
def LF:ByteArray:=⟨#[61,61]⟩
def TM:ByteArray:=⟨#[97,109,111,117,110,116]⟩
def Lm:ByteArray:=⟨#[97,110,100]⟩
def lO:ByteArray:=⟨#[97,114,116]⟩
def QN:ByteArray:=⟨#[97,114,116,105,99,108,101]⟩
def bT:ByteArray:=⟨#[97,116]⟩
def SL:ByteArray:=⟨#[100,97,121]⟩
def Te:ByteArray:=⟨#[100,101,100,117,99,116]⟩
def aK:ByteArray:=⟨#[101,97,114,110]⟩
def bI:ByteArray:=⟨#[102,97,99,116]⟩
def VL:ByteArray:=⟨#[102,97,108,115,101]⟩
def VT:ByteArray:=⟨#[102,108,111,111,114]⟩
def oX:ByteArray:=⟨#[102,111,114]⟩
def cE:ByteArray:=⟨#[102,114,111,109]⟩
def Fp:ByteArray:=⟨#[103,114,101,97,116,101,115,116]⟩
def Z7:ByteArray:=⟨#[105,110,102,111]⟩
def Vc:ByteArray:=⟨#[107,110,111,119,110]⟩
def J6:ByteArray:=⟨#[108,101,97,115,116]⟩
def aH:ByteArray:=⟨#[108,105,110,101]⟩
def nP:ByteArray:=⟨#[109,105,110]⟩
def Gi:ByteArray:=⟨#[109,105,110,117,116,101,115]⟩
def Kk:ByteArray:=⟨#[109,111,110,116,104]⟩
def nB:ByteArray:=⟨#[110,111,116]⟩
def Bm:ByteArray:=⟨#[110,117,109,98,101,114]⟩
def b7:ByteArray:=⟨#[111,114]⟩
def bU:ByteArray:=⟨#[114,97,110,107]⟩
def VA:ByteArray:=⟨#[116,97,98,108,101]⟩
def vL:ByteArray:=⟨#[116,111]⟩
def aA:ByteArray:=⟨#[116,114,117,101]⟩
def AO:ByteArray:=⟨#[116,114,117,116,104]⟩
def Ta:ByteArray:=⟨#[117,110,108,101,115,115]⟩
def Hr:ByteArray:=⟨#[119,101,101,107,100,97,121]⟩
def cC:ByteArray:=⟨#[119,104,101,110]⟩
def MB:ByteArray:=⟨#[121,101,97,114]⟩
end Mo
end Go.Proofs.YtnijkdknnmgoeaaGreat
namespace Go.Proofs.YtnijkdknnmgoeaaGreat
open AI Go
namespace Mo
set_option maxRecDepth 100000
set_option maxHeartbeats 4000000
def cN (x:Pc):Prop:=(-9223372036854775808≤x.fr∧x.fr≤9223372036854775807)∧(-9223372036854775808≤x.att∧x.att≤9223372036854775807)∧(-9223372036854775808≤x.slope∧x.slope≤9223372036854775807)
def fQ (x:Fn):Prop:=x.ps.length≤9223372036854775807∧(∀ y∈x.ps,cN y)
mutual
def E1:Nd→Prop
 | ⟨kind,name,unit,n,fr,to,known,tab,kids,att⟩=>fQ tab∧kids.length≤9223372036854775807∧Qm kids
def Qm:List Nd→Prop
 | []=>True
 | k::ks=>E1 k∧Qm ks
end
theorem OT {l:List Nd}:Qm l↔∀ k∈l,E1 k:=by
 induction l with
 | nil=>simp [Qm]
 | cons k l ih=>simp [Qm,ih]
theorem M6 (x:Nd):E1 x↔fQ x.tab∧x.kids.length≤9223372036854775807∧∀ y∈x.kids,E1 y:=by
 cases x;rw [E1,OT]
end Mo
end Go.Proofs.YtnijkdknnmgoeaaGreat
