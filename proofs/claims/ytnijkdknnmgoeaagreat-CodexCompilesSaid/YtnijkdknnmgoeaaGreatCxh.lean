/- Part of a proof: see the last text. -/
import Derived.Test.YtnijkdknnmgoeaaGreatCxg
import Derived.Test.YtnijkdknnmgoeaaGreatProg
import Derived.KernelRfl
set_option linter.unusedVariables false
set_option linter.unusedSimpArgs false
namespace Go.Proofs.YtnijkdknnmgoeaaGreat
open AI Go
namespace Hd
def G:A8:=fun _=>none
theorem mixed:Tryz.prog.follows .mixedOrders=true:=by kernel_rfl
theorem Aa (g:Nat) (cs:List AV) (h:G g=some cs):Bu cs=true:=by cases h
end Hd
end Go.Proofs.YtnijkdknnmgoeaaGreat
namespace Go.Proofs.YtnijkdknnmgoeaaGreat
open AI Go
namespace Mo
noncomputable abbrev P:Program:=Tryz.prog
abbrev G:A8:=Hd.G
noncomputable abbrev X:OY:=XS P G
variable {G0:A8}
theorem Fk {i n:Nat} (h:i < n):DH ((i:Nat):Int) ((n:Nat):Int)=true:=by rw [M5];simp;exact h
theorem IJ {i n:Nat} (h:n≤i):DH ((i:Nat):Int) ((n:Nat):Int)=false:=by rw [M5];simp;omega
theorem H2 {a b:Int} (h:Bp a b=true):a=b:=by rw [MU] at h;simpa using h
theorem tD {a b:Int} (h:Bp a b=false):a≠b:=by rw [MU] at h;simpa using h
theorem Ra {a b:Int} (h:DH a b=true):a < b:=by rw [M5] at h;exact of_decide_eq_true h
theorem kY {a b:Int} (h:DH a b=false):b≤a:=by rw [M5] at h;have:=of_decide_eq_false h;omega
theorem Ad {β:Type} {b:Bool} {t f:Option β} {r:β} {X:Prop} (h1:b=true→t=some r→X) (h2:b=false→f=some r→X):cond b t f=some r→X:=fun h=>(adL h).elim (fun x=>h1 x.1 x.2) fun x=>h2 x.1 x.2
theorem Ah {β κ:Type} {m:Option κ} {k:κ→Option β} {r:β} {X:Prop} (h1:∀ y,m=some y→k y=some r→X):m.bind k=some r→X:=fun h=>(Vr h).elim fun y x=>h1 y x.1 x.2
theorem Kz {β:Type} {n:Nat} {x:Option β} {r:β} {X:Prop} (h1:n≤100000000→x=some r→X):Lt n x=some r→X:=fun h=>h1 (tQ h).1 (tQ h).2
theorem abM {β:Type} {r:β} {X:Prop}:(none:Option β)=some r→X:=fun h=>nomatch h
theorem sI {a b:Int} (h:a≠b):Bp a b=false:=by rw [MU];simpa using h
theorem acH {a b:Int} (h:a < b):DH a b=true:=by rw [M5];exact decide_eq_true h
theorem fL {a b:Int} (h:b≤a):DH a b=false:=by rw [M5];exact decide_eq_false (by omega)
def fq {n m:Nat} {a:AV} (h:plain a=true):FP n m:=⟨a,a,.plain h⟩
def fbp {n m:Nat} (a:List AV) (h:Bu a=true):FB n m:=⟨.cells a,.cells a,.cells (.plain h)⟩
def fbu {n m:Nat} (a:List AV) (h:CZ n m a=true):FB n m:=⟨.cells a,.cells a,.cells (.under h)⟩
theorem abl {n:Nat} {l:List AV} (h:Bu l=true):plain (.sl .lost n l)=true:=by simp only [plain,h];rfl
theorem Gx {n:Nat} {l:List AV} (h:Bu l=true):plain (.sl .full n l)=true:=by simp only [plain,h];rfl
theorem CC {n m r sz k:Nat} {l:List AV} (h:decide (r < m)=true) (t:CZ n m l=true):under n m (.sl (.row r sz) k l)=true:=by simp only [under,h,t];rfl
theorem aem {n m:Nat} {f:Go.Fn} {a l:List AV} (h:CZ n m a=true) (k:CZ n m l=true):under n m (.fn f a l)=true:=by simp only [under,h,k];rfl
def Qt (x:Int):List AV:=[.sc (.int .i64 x)]
def K8 (x:ByteArray):List AV:=[.sc (.string x)]
theorem Jb:Kp Qt (rows Qt) 1:=⟨fun _=>rfl,fun _=>rfl,fun _=>rfl⟩
theorem Bw:Kp K8 (rows K8) 1:=⟨fun _=>rfl,fun _=>rfl,fun _=>rfl⟩
structure Pc where
 fr:Int
 att:Int
 slope:Int
def GY (x:Pc):List AV:=[.sc (.int .i64 x.fr),.sc (.int .i64 x.att),.sc (.int .i64 x.slope)]
theorem Ch:Kp GY (rows GY) 3:=⟨fun _=>rfl,fun _=>rfl,fun x=>(AW rfl (AW rfl (AW rfl rfl)))⟩
structure Fn where
 den:Int
 ps:(List Pc)
def Uh (x:Fn):List AV:=[.sc (.int .i64 x.den),.sl .lost x.ps.length (rows GY x.ps)]
theorem L6:Kp Uh (rows Uh) 2:=⟨fun _=>rfl,fun _=>rfl,fun x=>(AW rfl (AW (Ch.Bk x.ps) rfl))⟩
structure Nd where
 kind:Int
 name:ByteArray
 unit:ByteArray
 n:Int
 fr:Int
 to:Int
 known:Int
 tab:Fn
 kids:(List Nd)
 att:Int
mutual
def ndK:Nd→List AV
 | ⟨kind,name,unit,n,fr,to,known,tab,kids,att⟩=>[.sc (.int .i64 kind),.sc (.string name),.sc (.string unit),.sc (.int .i64 n),.sc (.int .i64 fr),.sc (.int .i64 to),.sc (.int .i64 known),.sc (.int .i64 tab.den),.sl .lost tab.ps.length (rows GY tab.ps),.sl .lost kids.length (Cg kids),.sc (.int .i64 att)]
def Cg:List Nd→List AV
 | []=>[]
 | k::ks=>ndK k++Cg ks
end
def Bo (x:Nd):List AV:=[.sc (.int .i64 x.kind),.sc (.string x.name),.sc (.string x.unit),.sc (.int .i64 x.n),.sc (.int .i64 x.fr),.sc (.int .i64 x.to),.sc (.int .i64 x.known),.sc (.int .i64 x.tab.den),.sl .lost x.tab.ps.length (rows GY x.tab.ps),.sl .lost x.kids.length (Cg x.kids),.sc (.int .i64 x.att)]
theorem fG (x:Nd):ndK x=Bo x:=by cases x;rfl
theorem Ze (l:List Nd):Cg l=rows Bo l:=by
 induction l with
 | nil=>rfl
 | cons k ks ih=>rw [HM,Cg,ih,fG]
mutual
theorem j8:∀ x:Nd,Bu (ndK x)=true
 | ⟨kind,name,unit,n,fr,to,known,tab,kids,att⟩=>by rw [ndK];exact (AW rfl (AW rfl (AW rfl (AW rfl (AW rfl (AW rfl (AW rfl (AW rfl (AW (Ch.Bk tab.ps) (AW (abl (Zy kids)) (AW rfl rfl)))))))))))
theorem Zy:∀ l:List Nd,Bu (Cg l)=true
 | []=>rfl
 | k::ks=>by rw [Cg];exact kJ (j8 k) (Zy ks)
end
theorem Am:Kp Bo Cg 11:=⟨Ze,fun _=>rfl,fun x=>by rw [← fG];exact j8 x⟩
structure Ex where
 op:Int
 n:Int
 unit:ByteArray
 tab:Fn
 kids:(List Ex)
mutual
def exK:Ex→List AV
 | ⟨op,n,unit,tab,kids⟩=>[.sc (.int .i64 op),.sc (.int .i64 n),.sc (.string unit),.sc (.int .i64 tab.den),.sl .lost tab.ps.length (rows GY tab.ps),.sl .lost kids.length (BL kids)]
def BL:List Ex→List AV
 | []=>[]
 | k::ks=>exK k++BL ks
end
def Er (x:Ex):List AV:=[.sc (.int .i64 x.op),.sc (.int .i64 x.n),.sc (.string x.unit),.sc (.int .i64 x.tab.den),.sl .lost x.tab.ps.length (rows GY x.tab.ps),.sl .lost x.kids.length (BL x.kids)]
theorem iL (x:Ex):exK x=Er x:=by cases x;rfl
theorem nW (l:List Ex):BL l=rows Er l:=by
 induction l with
 | nil=>rfl
 | cons k ks ih=>rw [HM,BL,ih,iL]
mutual
theorem hO:∀ x:Ex,Bu (exK x)=true
 | ⟨op,n,unit,tab,kids⟩=>by rw [exK];exact (AW rfl (AW rfl (AW rfl (AW rfl (AW (Ch.Bk tab.ps) (AW (abl (ZQ kids)) rfl))))))
theorem ZQ:∀ l:List Ex,Bu (BL l)=true
 | []=>rfl
 | k::ks=>by rw [BL];exact kJ (hO k) (ZQ ks)
end
theorem By:Kp Er BL 6:=⟨nW,fun _=>rfl,fun x=>by rw [← iL];exact hO x⟩
structure Ar where
 number:Int
 line:Int
 rank:Int
 fr:Int
 to:Int
 known:Int
 wh:(List Ex)
 un:(List Int)
 am:Ex
def FU (x:Ar):List AV:=[.sc (.int .i64 x.number),.sc (.int .i64 x.line),.sc (.int .i64 x.rank),.sc (.int .i64 x.fr),.sc (.int .i64 x.to),.sc (.int .i64 x.known),.sl .lost x.wh.length (BL x.wh),.sl .lost x.un.length (rows Qt x.un),.sc (.int .i64 x.am.op),.sc (.int .i64 x.am.n),.sc (.string x.am.unit),.sc (.int .i64 x.am.tab.den),.sl .lost x.am.tab.ps.length (rows GY x.am.tab.ps),.sl .lost x.am.kids.length (BL x.am.kids)]
theorem CK:Kp FU (rows FU) 14:=⟨fun _=>rfl,fun _=>rfl,fun x=>(AW rfl (AW rfl (AW rfl (AW rfl (AW rfl (AW rfl (AW (By.Bk x.wh) (AW (Jb.Bk x.un) (kJ (By.pl x.am) rfl)))))))))⟩
structure Dc where
 name:ByteArray
 unit:ByteArray
 role:Int
def B7 (x:Dc):List AV:=[.sc (.string x.name),.sc (.string x.unit),.sc (.int .i64 x.role)]
theorem Bl:Kp B7 (rows B7) 3:=⟨fun _=>rfl,fun _=>rfl,fun x=>(AW rfl (AW rfl (AW rfl rfl)))⟩
structure Co where
 facts:(List Dc)
 lines:(List Dc)
 arts:(List Ar)
def Wf (x:Co):List AV:=[.sl .lost x.facts.length (rows B7 x.facts),.sl .lost x.lines.length (rows B7 x.lines),.sl .lost x.arts.length (rows FU x.arts)]
theorem Hu:Kp Wf (rows Wf) 3:=⟨fun _=>rfl,fun _=>rfl,fun x=>(AW (Bl.Bk x.facts) (AW (Bl.Bk x.lines) (AW (CK.Bk x.arts) rfl)))⟩
structure Tk where
 kind:Int
 text:ByteArray
 att:Int
structure Dg where
 err:Int
 att:Int
def BX (x:Dg):List AV:=[.sc (.int .i64 x.err),.sc (.int .i64 x.att)]
theorem AO:Kp BX (rows BX) 2:=⟨fun _=>rfl,fun _=>rfl,fun x=>(AW rfl (AW rfl rfl))⟩
structure Ps where
 l:(List Tk)
 at_:Int
 end_:Int
 err:Int
 errAt:Int
structure Ck where
 nodes:Int
def He (x:Ck):List AV:=[.sc (.int .i64 x.nodes)]
theorem Ni:Kp He (rows He) 1:=⟨fun _=>rfl,fun _=>rfl,fun x=>(AW rfl rfl)⟩
structure Cq where
 src:Nd
 diags:(List Dg)
def I9 (r0:Nat) (x:Cq):List AV:=[.sc (.int .i64 x.src.kind),.sc (.string x.src.name),.sc (.string x.src.unit),.sc (.int .i64 x.src.n),.sc (.int .i64 x.src.fr),.sc (.int .i64 x.src.to),.sc (.int .i64 x.src.known),.sc (.int .i64 x.src.tab.den),.sl .lost x.src.tab.ps.length (rows GY x.src.tab.ps),.sl .lost x.src.kids.length (Cg x.src.kids),.sc (.int .i64 x.src.att),.sl (.row r0 2) x.diags.length (rows BX x.diags)]
theorem N1 {k j:Nat} {ρ σ:Nat→Nat} {r0:Nat} (x:Cq) (h0:r0 < j):OF k j ρ σ (I9 r0 x) (I9 (σ r0) x):=(.cons (.pl rfl) (.cons (.pl rfl) (.cons (.pl rfl) (.cons (.pl rfl) (.cons (.pl rfl) (.cons (.pl rfl) (.cons (.pl rfl) (.cons (.pl rfl) (.cons (.pl (Ch.Bk x.src.tab.ps)) (.cons (.pl (Am.Bk x.src.kids)) (.cons (.pl rfl) (.cons (.row h0 (AO.AW x.diags)) .nil))))))))))))
theorem H4 {n m:Nat} {r0:Nat} {x:Cq} (h0:decide (r0 < m)=true):CZ n m (I9 r0 x)=true:=(Av (Ae _ _ rfl) (Av (Ae _ _ rfl) (Av (Ae _ _ rfl) (Av (Ae _ _ rfl) (Av (Ae _ _ rfl) (Av (Ae _ _ rfl) (Av (Ae _ _ rfl) (Av (Ae _ _ rfl) (Av (Ae _ _ (Ch.Bk x.src.tab.ps)) (Av (Ae _ _ (Am.Bk x.src.kids)) (Av (Ae _ _ rfl) (Av (CC h0 (Aj _ _ (AO.AW x.diags))) rfl))))))))))))
structure Ft where
 codex:Co
 lines:(Mm Int Int)
 nodes:Int
def Jy (r0:Nat) (x:Ft):List AV:=[.sl .lost x.codex.facts.length (rows B7 x.codex.facts),.sl .lost x.codex.lines.length (rows B7 x.codex.lines),.sl .lost x.codex.arts.length (rows FU x.codex.arts),.mp r0,.sc (.int .i64 x.nodes)]
theorem SS {k j:Nat} {ρ σ:Nat→Nat} {r0:Nat} (x:Ft) (h0:r0 < k):OF k j ρ σ (Jy r0 x) (Jy (ρ r0) x):=(.cons (.pl (Bl.Bk x.codex.facts)) (.cons (.pl (Bl.Bk x.codex.lines)) (.cons (.pl (CK.Bk x.codex.arts)) (.cons (.mp h0) (.cons (.pl rfl) .nil)))))
theorem E0 {n m:Nat} {r0:Nat} {x:Ft} (h0:decide (r0 < n)=true):CZ n m (Jy r0 x)=true:=(Av (Ae _ _ (Bl.Bk x.codex.facts)) (Av (Ae _ _ (Bl.Bk x.codex.lines)) (Av (Ae _ _ (CK.Bk x.codex.arts)) (Av h0 (Av (Ae _ _ rfl) rfl)))))
structure Sc where
 facts:(Mm ByteArray ByteArray)
 lines:(Mm ByteArray ByteArray)
 Af:(Mm Int ByteArray)
structure Tr where
 codex:Co
 facts:(Mm ByteArray Int)
 lines:(Mm ByteArray Int)
 Af:(Mm Int Int)
def GK (r0 r1 r2 r3 r4 r5:Nat) (x:Tr):List AV:=[.sl (.row r0 3) x.codex.facts.length (rows B7 x.codex.facts),.sl (.row r1 3) x.codex.lines.length (rows B7 x.codex.lines),.sl (.row r2 14) x.codex.arts.length (rows FU x.codex.arts),.mp r3,.mp r4,.mp r5]
theorem IA {k j:Nat} {ρ σ:Nat→Nat} {r0 r1 r2 r3 r4 r5:Nat} (x:Tr) (h0:r0 < j) (h1:r1 < j) (h2:r2 < j) (h3:r3 < k) (h4:r4 < k) (h5:r5 < k):OF k j ρ σ (GK r0 r1 r2 r3 r4 r5 x) (GK (σ r0) (σ r1) (σ r2) (ρ r3) (ρ r4) (ρ r5) x):=(.cons (.row h0 (Bl.AW x.codex.facts)) (.cons (.row h1 (Bl.AW x.codex.lines)) (.cons (.row h2 (CK.AW x.codex.arts)) (.cons (.mp h3) (.cons (.mp h4) (.cons (.mp h5) .nil))))))
theorem CB {n m:Nat} {r0 r1 r2 r3 r4 r5:Nat} {x:Tr} (h0:decide (r0 < m)=true) (h1:decide (r1 < m)=true) (h2:decide (r2 < m)=true) (h3:decide (r3 < n)=true) (h4:decide (r4 < n)=true) (h5:decide (r5 < n)=true):CZ n m (GK r0 r1 r2 r3 r4 r5 x)=true:=(Av (CC h0 (Aj _ _ (Bl.AW x.codex.facts))) (Av (CC h1 (Aj _ _ (Bl.AW x.codex.lines))) (Av (CC h2 (Aj _ _ (CK.AW x.codex.arts))) (Av h3 (Av h4 (Av h5 rfl))))))
theorem u22:P.underlying 22=some (.slice 138):=by kernel_rfl
theorem adj:(P.info? 138).map (·.size)=some 3:=by kernel_rfl
theorem i138:(P.info? 138).map (fun i=>(i.size,i.bytes,i.zero.map (·.cells.size)))=some (3,24,some 3):=by kernel_rfl
theorem QB (own:Own) {l:List Pc} {i:Nat} {x:Pc} (h:l[i]?=some x):B2 P 22 (.sl own l.length (rows GY l)) (.sc (.int .i64 ((i:Nat):Int)))=some (.el (GY x++rows GY (l.drop (i+1)))):=Ch.ix u22 adj own h
theorem Z2 (own:Own) {l:List Pc} {z:Int} {x:Pc} (h:CP l z=some x):B2 P 22 (.sl own l.length (rows GY l)) (.sc (.int .i64 z))=some (.el (GY x++rows GY (l.drop (z.toNat+1)))):=Ch.ixz u22 adj own h
theorem abY (own:Own) (l m:List Pc) {o:Own} (hm:¬ m.length=0) (hlen:l.length+m.length≤100000000):Cd.ok P G0 (.Q2 22 22 own l.length (rows GY l) (.sl o m.length (rows GY m)) 3 (l++m).length (rows GY (l++m))):=Ch.Q2 u22 u22 i138 (by decide) (by decide) own l m (Wn.refl _) rfl (Ch.eM (fun _=>rfl) m) hm hlen
theorem adA (own:Own) (l m:List Pc) {o:Own} (s:AS) (hm:m.length=0) (hlen:l.length+m.length≤100000000):Cd.ok P G0 (.R7 s 22 22 (.sl own l.length (rows GY l)) (.sl o m.length (rows GY m)) (.sl own l.length (rows GY l)) s):=Ch.ga u22 u22 i138 (by decide) (by decide) own l m s hm hlen
theorem u25:P.underlying 25=some (.slice 27):=by kernel_rfl
theorem s27:(P.info? 27).map (·.size)=some 11:=by kernel_rfl
theorem i27:(P.info? 27).map (fun i=>(i.size,i.bytes,i.zero.map (·.cells.size)))=some (11,136,some 11):=by kernel_rfl
theorem BQ (own:Own) {l:List Nd} {i:Nat} {x:Nd} (h:l[i]?=some x):B2 P 25 (.sl own l.length (Cg l)) (.sc (.int .i64 ((i:Nat):Int)))=some (.el (Bo x++Cg (l.drop (i+1)))):=Am.ix u25 s27 own h
theorem Uv (own:Own) {l:List Nd} {z:Int} {x:Nd} (h:CP l z=some x):B2 P 25 (.sl own l.length (Cg l)) (.sc (.int .i64 z))=some (.el (Bo x++Cg (l.drop (z.toNat+1)))):=Am.ixz u25 s27 own h
theorem acd (own:Own) (l m:List Nd) {o:Own} {n:Nat} {ns:List AV} (hn:Wn ns (Cg m)) (hnn:n=m.length) (ho:ns.all one=true) (hm:m.length≠0) (hlen:l.length+m.length≤100000000):Cd.ok P G0 (.Q2 25 25 own l.length (Cg l) (.sl o n ns) 11 (l++m).length (Cg (l++m))):=Am.Q2 u25 u25 i27 (by decide) (by decide) own l m hn hnn ho hm hlen
theorem u28:P.underlying 28=some (.slice 57):=by kernel_rfl
theorem s57:(P.info? 57).map (·.size)=some 3:=by kernel_rfl
theorem i57:(P.info? 57).map (fun i=>(i.size,i.bytes,i.zero.map (·.cells.size)))=some (3,40,some 3):=by kernel_rfl
theorem fK (own:Own) {l:List Dc} {i:Nat} {x:Dc} (h:l[i]?=some x):B2 P 28 (.sl own l.length (rows B7 l)) (.sc (.int .i64 ((i:Nat):Int)))=some (.el (B7 x++rows B7 (l.drop (i+1)))):=Bl.ix u28 s57 own h
theorem Nh (own:Own) {l:List Dc} {z:Int} {x:Dc} (h:CP l z=some x):B2 P 28 (.sl own l.length (rows B7 l)) (.sc (.int .i64 z))=some (.el (B7 x++rows B7 (l.drop (z.toNat+1)))):=Bl.ixz u28 s57 own h
theorem sE (own:Own) (l m:List Dc) {o:Own} {n:Nat} {ns:List AV} (hn:Wn ns (rows B7 m)) (hnn:n=m.length) (ho:ns.all one=true) (hm:m.length≠0) (hlen:l.length+m.length≤100000000):Cd.ok P G0 (.Q2 28 28 own l.length (rows B7 l) (.sl o n ns) 3 (l++m).length (rows B7 (l++m))):=Bl.Q2 u28 u28 i57 (by decide) (by decide) own l m hn hnn ho hm hlen
theorem u29:P.underlying 29=some (.slice 62):=by kernel_rfl
theorem s62:(P.info? 62).map (·.size)=some 14:=by kernel_rfl
theorem i62:(P.info? 62).map (fun i=>(i.size,i.bytes,i.zero.map (·.cells.size)))=some (14,184,some 14):=by kernel_rfl
theorem pW (own:Own) {l:List Ar} {i:Nat} {x:Ar} (h:l[i]?=some x):B2 P 29 (.sl own l.length (rows FU l)) (.sc (.int .i64 ((i:Nat):Int)))=some (.el (FU x++rows FU (l.drop (i+1)))):=CK.ix u29 s62 own h
theorem ace (own:Own) {l:List Ar} {z:Int} {x:Ar} (h:CP l z=some x):B2 P 29 (.sl own l.length (rows FU l)) (.sc (.int .i64 z))=some (.el (FU x++rows FU (l.drop (z.toNat+1)))):=CK.ixz u29 s62 own h
theorem ac5 (own:Own) (l m:List Ar) {o:Own} {n:Nat} {ns:List AV} (hn:Wn ns (rows FU m)) (hnn:n=m.length) (ho:ns.all one=true) (hm:m.length≠0) (hlen:l.length+m.length≤100000000):Cd.ok P G0 (.Q2 29 29 own l.length (rows FU l) (.sl o n ns) 14 (l++m).length (rows FU (l++m))):=CK.Q2 u29 u29 i62 (by decide) (by decide) own l m hn hnn ho hm hlen
theorem nC:P.underlying 35=some (.slice 52):=by kernel_rfl
theorem s52:(P.info? 52).map (·.size)=some 2:=by kernel_rfl
theorem i52:(P.info? 52).map (fun i=>(i.size,i.bytes,i.zero.map (·.cells.size)))=some (2,16,some 2):=by kernel_rfl
theorem oN (own:Own) {l:List Dg} {i:Nat} {x:Dg} (h:l[i]?=some x):B2 P 35 (.sl own l.length (rows BX l)) (.sc (.int .i64 ((i:Nat):Int)))=some (.el (BX x++rows BX (l.drop (i+1)))):=AO.ix nC s52 own h
theorem ZC (own:Own) (l m:List Dg) {o:Own} {n:Nat} {ns:List AV} (hn:Wn ns (rows BX m)) (hnn:n=m.length) (ho:ns.all one=true) (hm:m.length≠0) (hlen:l.length+m.length≤100000000):Cd.ok P G0 (.Q2 35 35 own l.length (rows BX l) (.sl o n ns) 2 (l++m).length (rows BX (l++m))):=AO.Q2 nC nC i52 (by decide) (by decide) own l m hn hnn ho hm hlen
theorem acn (own:Own) (l m:List Dg) {o:Own} (hm:¬ m.length=0) (hlen:l.length+m.length≤100000000):Cd.ok P G0 (.Q2 35 35 own l.length (rows BX l) (.sl o m.length (rows BX m)) 2 (l++m).length (rows BX (l++m))):=AO.Q2 nC nC i52 (by decide) (by decide) own l m (Wn.refl _) rfl (AO.eM (fun _=>rfl) m) hm hlen
theorem aeB (own:Own) (l m:List Dg) {o:Own} (s:AS) (hm:m.length=0) (hlen:l.length+m.length≤100000000):Cd.ok P G0 (.R7 s 35 35 (.sl own l.length (rows BX l)) (.sl o m.length (rows BX m)) (.sl own l.length (rows BX l)) s):=AO.ga nC nC i52 (by decide) (by decide) own l m s hm hlen
theorem u40:P.underlying 40=some (.slice 3):=by kernel_rfl
theorem s3:(P.info? 3).map (·.size)=some 1:=by kernel_rfl
theorem i3:(P.info? 3).map (fun i=>(i.size,i.bytes,i.zero.map (·.cells.size)))=some (1,8,some 1):=by kernel_rfl
theorem bR (own:Own) {l:List Int} {i:Nat} {x:Int} (h:l[i]?=some x):B2 P 40 (.sl own l.length (rows Qt l)) (.sc (.int .i64 ((i:Nat):Int)))=some (.el (Qt x++rows Qt (l.drop (i+1)))):=Jb.ix u40 s3 own h
theorem ab3 (own:Own) (l m:List Int) {o:Own} {n:Nat} {ns:List AV} (hn:Wn ns (rows Qt m)) (hnn:n=m.length) (ho:ns.all one=true) (hm:m.length≠0) (hlen:l.length+m.length≤100000000):Cd.ok P G0 (.Q2 40 40 own l.length (rows Qt l) (.sl o n ns) 1 (l++m).length (rows Qt (l++m))):=Jb.Q2 u40 u40 i3 (by decide) (by decide) own l m hn hnn ho hm hlen
theorem u58:P.underlying 58=some (.slice 60):=by kernel_rfl
theorem s60:(P.info? 60).map (·.size)=some 6:=by kernel_rfl
theorem i60:(P.info? 60).map (fun i=>(i.size,i.bytes,i.zero.map (·.cells.size)))=some (6,88,some 6):=by kernel_rfl
theorem No (own:Own) {l:List Ex} {i:Nat} {x:Ex} (h:l[i]?=some x):B2 P 58 (.sl own l.length (BL l)) (.sc (.int .i64 ((i:Nat):Int)))=some (.el (Er x++BL (l.drop (i+1)))):=By.ix u58 s60 own h
theorem ac1 (own:Own) {l:List Ex} {z:Int} {x:Ex} (h:CP l z=some x):B2 P 58 (.sl own l.length (BL l)) (.sc (.int .i64 z))=some (.el (Er x++BL (l.drop (z.toNat+1)))):=By.ixz u58 s60 own h
theorem aA (own:Own) (l m:List Ex) {o:Own} {n:Nat} {ns:List AV} (hn:Wn ns (BL m)) (hnn:n=m.length) (ho:ns.all one=true) (hm:m.length≠0) (hlen:l.length+m.length≤100000000):Cd.ok P G0 (.Q2 58 58 own l.length (BL l) (.sl o n ns) 6 (l++m).length (BL (l++m))):=By.Q2 u58 u58 i60 (by decide) (by decide) own l m hn hnn ho hm hlen
theorem s4:(P.info? 4).map (·.size)=some 1:=by kernel_rfl
theorem i4:(P.info? 4).map (fun i=>(i.size,i.bytes,i.zero.map (·.cells.size)))=some (1,1,some 1):=by kernel_rfl
theorem dQ:P.underlying 141=some (.slice 9):=by kernel_rfl
theorem s9:(P.info? 9).map (·.size)=some 1:=by kernel_rfl
theorem i9:(P.info? 9).map (fun i=>(i.size,i.bytes,i.zero.map (·.cells.size)))=some (1,16,some 1):=by kernel_rfl
theorem Mr (own:Own) {l:List ByteArray} {i:Nat} {x:ByteArray} (h:l[i]?=some x):B2 P 141 (.sl own l.length (rows K8 l)) (.sc (.int .i64 ((i:Nat):Int)))=some (.el (K8 x++rows K8 (l.drop (i+1)))):=Bw.ix dQ s9 own h
theorem Yz (own:Own) (l m:List ByteArray) {o:Own} {n:Nat} {ns:List AV} (hn:Wn ns (rows K8 m)) (hnn:n=m.length) (ho:ns.all one=true) (hm:m.length≠0) (hlen:l.length+m.length≤100000000):Cd.ok P G0 (.Q2 141 141 own l.length (rows K8 l) (.sl o n ns) 1 (l++m).length (rows K8 (l++m))):=Bw.Q2 dQ dQ i9 (by decide) (by decide) own l m hn hnn ho hm hlen
theorem Yx {id n i:Nat} (h:i < n):B2 P 141 (.msl id 0 n) (.sc (.int .i64 ((i:Nat):Int)))=some (.ptr id (0+i*1)):=Bw.ixm dQ s9 h
theorem Ol {id n i:Nat} {z:Int} (h:OW n z=some i):B2 P 141 (.msl id 0 n) (.sc (.int .i64 z))=some (.ptr id (0+i*1)):=Bw.adF dQ s9 h
theorem NI {l:List ByteArray} {i:Nat} {x:ByteArray} (h:l[i]?=some x):Cd.ok P G0 (.ldB (.cells (rows K8 l)) 9 (0+i*1) (.sc (.string x))):=Bw.ld1 (by kernel_rfl) s9 h rfl
theorem vK {l:List ByteArray} {i:Nat} {x:ByteArray} (h:l[i]?=some x) (y:ByteArray):Cd.ok P G0 (.stB (.cells (rows K8 l)) 9 (0+i*1) (.sc (.string y)) (.cells (rows K8 (l.set i y)))):=Bw.st s9 h y rfl rfl
theorem xL {n:Nat} (hn:n≤16777216):Cd.ok P G0 (.mkB 141 (.sc (.int .i64 ((n:Nat):Int))) (.sc (.int .i64 ((n:Nat):Int))) n (.cells (rows K8 (List.replicate n ByteArray.empty)))):=Bw.made dQ (by kernel_rfl) (by decide) hn
def xK (x y:Int):Int:=IntKind.i64.wrap (x.tdiv y)
def zM (x y:Int):Int:=x.tmod y
def iU (x y:Int):Option Int:=if y=0 then none else some (xK x y)
def T4 (x y:Int):Option Int:=if y=0 then none else some (zM x y)
def Jv {α:Type} (s:List α) (l h:Int):Option (List α):=if 0≤l∧l≤h∧h≤((s.length:Nat):Int) then some ((s.drop l.toNat).take (h.toNat - l.toNat)) else none
theorem VW (z:Int) (h:0≤z):Np (.sc (.int .i64 z))=some z.toNat:=by unfold Np;simp [h]
theorem mS {a b c:Int} (h:iU a b=some c) (x y:Operand):IN P .quo 3 x y (.sc (.int .i64 a)) (.sc (.int .i64 b))=some (.sc (.int .i64 c)):=by
 unfold iU at h
 split at h
 · cases h
 · rename_i hb
   cases h
   simp [IN,ON,PM,eqGuard,binOp,Op.intDiv,hb,AI.pv,T6,scalar,xK,Bind.bind,Sem.bind,Pure.pure]
theorem VU {a b c:Int} (h:T4 a b=some c) (x y:Operand):IN P .rem 3 x y (.sc (.int .i64 a)) (.sc (.int .i64 b))=some (.sc (.int .i64 c)):=by
 unfold T4 at h
 split at h
 · cases h
 · rename_i hb
   cases h
   simp [IN,ON,PM,eqGuard,binOp,Op.intDiv,hb,AI.pv,T6,scalar,zM,Bind.bind,Sem.bind,Pure.pure]
theorem us9:P.underlying 9=some .string:=by kernel_rfl
theorem KP {s:ByteArray} {i:Nat} {c:UInt8} (h:s.data.toList[i]?=some c):JG P 9 (.sc (.string s)) (.sc (.int .i64 ((i:Nat):Int)))=some (.sc (.int .u8 ((c.toNat:Nat):Int))):=by
 unfold JG
 rw [us9,VW _ (by omega)]
 simp only [Int.toNat_natCast,h]
theorem nF (l h:Nat) {s:List Nd} (h1:l≤h) (h2:h≤s.length) (lo hi:Option AV) (e1:Ji 0 lo=some l) (e2:Ji s.length hi=some h):Hi P 25 (.sl .lost s.length (Cg s)) lo hi none=some (.sl .lost ((s.drop l).take (h - l)).length (Cg ((s.drop l).take (h - l)))):=Am.sub u25 s27 l h h1 h2 lo hi e1 e2
theorem Ir {s v:List Nd} {l:Int} (e:Jv s l ((s.length:Nat):Int)=some v):Hi P 25 (.sl .lost s.length (Cg s)) (some (.sc (.int .i64 l))) (none) none=some (.sl .lost v.length (Cg v)):=by
 unfold Jv at e
 split at e
 · rename_i hc
   cases e
   exact nF _ _ (by omega) (by omega) _ _ (VW l hc.1) rfl
 · cases e
theorem aau (own:Own) {s:List Dg} {h:Int} (e:Bp h ((s.length:Nat):Int)=true):Hi P 35 (.sl own s.length (rows BX s)) none (some (.sc (.int .i64 h))) none=some (.sl own s.length (rows BX s)):=by
 have e:=H2 e
 exact AO.aek nC s52 own _ ((VW h (by omega)).trans (congrArg some (by omega)))
theorem zQ (own:Own) {s v:List Dg} {h:Int} (e:Jv s 0 h=some v) (hn:Bp h ((s.length:Nat):Int)=false):Hi P 35 (.sl own s.length (rows BX s)) none (some (.sc (.int .i64 h))) none=some (.sl .lost v.length (rows BX v)):=by
 have hn:=tD hn
 unfold Jv at e
 split at e
 · rename_i hc
   cases e
   exact AO.ae8 nC s52 own _ _ (by omega) (by omega) _ _ rfl (VW h (by omega))
 · cases e
def MY (x y:Pc):Bool:=x.fr == y.fr&&(x.att == y.att&&(x.slope == y.slope))
theorem Yv (x y:Pc):Uk [.int .i64 x.fr,.int .i64 x.att,.int .i64 x.slope] [.int .i64 y.fr,.int .i64 y.att,.int .i64 y.slope]=some (MY x y):=by
 simp only [Uk,wP,MY,if_true,Option.bind_some]
 cases (x.fr == y.fr)<;>cases (x.att == y.att)<;>cases (x.slope == y.slope)<;>rfl
theorem mY:Flat P 138 [1,1,1]:=⟨by kernel_rfl,by kernel_rfl,by kernel_rfl,by kernel_rfl,by kernel_rfl,by kernel_rfl⟩
theorem VY {x y:Pc} {b:Bool} (h:MY x y=b) (ox oy:Operand):IN P .neq 138 ox oy (.agg (GY x)) (.agg (GY y))=some (.sc (.bool (!b))):=by
 subst h
 exact (mY.bin (us:=[.int .i64 x.fr,.int .i64 x.att,.int .i64 x.slope]) (vs:=[.int .i64 y.fr,.int .i64 y.att,.int .i64 y.slope]) ⟨.inl ⟨_,rfl,rfl⟩,⟨.inl ⟨_,rfl,rfl⟩,⟨.inl ⟨_,rfl,rfl⟩,trivial⟩⟩⟩ ⟨.inl ⟨_,rfl,rfl⟩,⟨.inl ⟨_,rfl,rfl⟩,⟨.inl ⟨_,rfl,rfl⟩,trivial⟩⟩⟩ (Yv x y) ox oy).2
def LI (x y:Dc):Bool:=x.name == y.name&&(x.unit == y.unit&&(x.role == y.role))
theorem YG (x y:Dc):Uk [.string x.name,.string x.unit,.int .i64 x.role] [.string y.name,.string y.unit,.int .i64 y.role]=some (LI x y):=by
 simp only [Uk,wP,LI,if_true,Option.bind_some]
 cases (x.name == y.name)<;>cases (x.unit == y.unit)<;>cases (x.role == y.role)<;>rfl
theorem xW:Flat P 57 [2,2,1]:=⟨by kernel_rfl,by kernel_rfl,by kernel_rfl,by kernel_rfl,by kernel_rfl,by kernel_rfl⟩
theorem Uq {x y:Dc} {b:Bool} (h:LI x y=b) (ox oy:Operand):IN P .neq 57 ox oy (.agg (B7 x)) (.agg (B7 y))=some (.sc (.bool (!b))):=by
 subst h
 exact (xW.bin (us:=[.string x.name,.string x.unit,.int .i64 x.role]) (vs:=[.string y.name,.string y.unit,.int .i64 y.role]) ⟨.inr ⟨_,rfl,rfl⟩,⟨.inr ⟨_,rfl,rfl⟩,⟨.inl ⟨_,rfl,rfl⟩,trivial⟩⟩⟩ ⟨.inr ⟨_,rfl,rfl⟩,⟨.inr ⟨_,rfl,rfl⟩,⟨.inl ⟨_,rfl,rfl⟩,trivial⟩⟩⟩ (YG x y) ox oy).2
def Bz (m:Mm ByteArray Int):A5:=mB (fun n=>.string n) (fun n=>.sc (.int .i64 n)) m
def Bq {n l:Nat} (m:Mm ByteArray Int):FO n l:=some ⟨Bz m,Bz m,Jo fun _=>rfl⟩
theorem aa7:P.underlying 82=some (.map 9 3):=by kernel_rfl
theorem acs:P.underlying 9=some (.string):=by kernel_rfl
theorem aeb:Hb P 3=some (.sc (.int .i64 0)):=by kernel_rfl
theorem w7 (m:Mm ByteArray Int) (k:ByteArray):Cd.ok P G0 (.lkB (Bz m) 82 (.sc (.string k)) false (.sc (.int .i64 ((m.get k).getD 0)))):=Xp (vv:=(fun n=>.sc (.int .i64 n))) aa7 acs YO (z:=0) aeb m k
theorem acz (m:Mm ByteArray Int) (k:ByteArray) (v:Int):Cd.ok P G0 (.msB (Bz m) 82 (.sc (.string k)) (.sc (.int .i64 v)) (Bz (m.set k v))):=WH (vv:=(fun n=>.sc (.int .i64 n))) aa7 acs YO m k v
def BA (m:Mm Int Int):A5:=mB (fun n=>.int .i64 n) (fun n=>.sc (.int .i64 n)) m
def Bc {n l:Nat} (m:Mm Int Int):FO n l:=some ⟨BA m,BA m,Jo fun _=>rfl⟩
theorem wA:P.underlying 83=some (.map 3 3):=by kernel_rfl
theorem aaH:P.underlying 3=some ((.int .i64)):=by kernel_rfl
theorem abv:Hb P 3=some (.sc (.int .i64 0)):=by kernel_rfl
theorem qR (m:Mm Int Int) (k:Int):Cd.ok P G0 (.lkB (BA m) 83 (.sc (.int .i64 k)) false (.sc (.int .i64 ((m.get k).getD 0)))):=Xp (vv:=(fun n=>.sc (.int .i64 n))) wA aaH aN (z:=0) abv m k
theorem Rh (m:Mm Int Int) (k:Int) {b:Bool} (h:(m.get k).isSome=b):Cd.ok P G0 (.lkB (BA m) 83 (.sc (.int .i64 k)) true (.Bd [.sc (.int .i64 ((m.get k).getD 0)),.sc (.bool b)])):=YM (vv:=(fun n=>.sc (.int .i64 n))) wA aaH aN (z:=0) abv m k h
theorem qO (m:Mm Int Int) (k:Int) (v:Int):Cd.ok P G0 (.msB (BA m) 83 (.sc (.int .i64 k)) (.sc (.int .i64 v)) (BA (m.set k v))):=WH (vv:=(fun n=>.sc (.int .i64 n))) wA aaH aN m k v
def BP (m:Mm ByteArray ByteArray):A5:=mB (fun n=>.string n) (fun n=>.sc (.string n)) m
def Bg {n l:Nat} (m:Mm ByteArray ByteArray):FO n l:=some ⟨BP m,BP m,Jo fun _=>rfl⟩
theorem jU:P.underlying 116=some (.map 9 9):=by kernel_rfl
theorem eU:P.underlying 9=some (.string):=by kernel_rfl
theorem sS:Hb P 9=some (.sc (.string ByteArray.empty)):=by kernel_rfl
theorem aL (m:Mm ByteArray ByteArray) (k:ByteArray):Cd.ok P G0 (.lkB (BP m) 116 (.sc (.string k)) false (.sc (.string ((m.get k).getD ByteArray.empty)))):=Xp (vv:=(fun n=>.sc (.string n))) jU eU YO (z:=ByteArray.empty) sS m k
theorem Pk (m:Mm ByteArray ByteArray) (k:ByteArray) {b:Bool} (h:(m.get k).isSome=b):Cd.ok P G0 (.lkB (BP m) 116 (.sc (.string k)) true (.Bd [.sc (.string ((m.get k).getD ByteArray.empty)),.sc (.bool b)])):=YM (vv:=(fun n=>.sc (.string n))) jU eU YO (z:=ByteArray.empty) sS m k h
theorem tW (m:Mm ByteArray ByteArray) (k:ByteArray) (v:ByteArray):Cd.ok P G0 (.msB (BP m) 116 (.sc (.string k)) (.sc (.string v)) (BP (m.set k v))):=WH (vv:=(fun n=>.sc (.string n))) jU eU YO m k v
def D1 (m:Mm Int ByteArray):A5:=mB (fun n=>.int .i64 n) (fun n=>.sc (.string n)) m
def Cv {n l:Nat} (m:Mm Int ByteArray):FO n l:=some ⟨D1 m,D1 m,Jo fun _=>rfl⟩
theorem jQ:P.underlying 117=some (.map 3 9):=by kernel_rfl
theorem eG:P.underlying 3=some ((.int .i64)):=by kernel_rfl
theorem tS:Hb P 9=some (.sc (.string ByteArray.empty)):=by kernel_rfl
theorem fJ (m:Mm Int ByteArray) (k:Int):Cd.ok P G0 (.lkB (D1 m) 117 (.sc (.int .i64 k)) false (.sc (.string ((m.get k).getD ByteArray.empty)))):=Xp (vv:=(fun n=>.sc (.string n))) jQ eG aN (z:=ByteArray.empty) tS m k
theorem Vo (m:Mm Int ByteArray) (k:Int) {b:Bool} (h:(m.get k).isSome=b):Cd.ok P G0 (.lkB (D1 m) 117 (.sc (.int .i64 k)) true (.Bd [.sc (.string ((m.get k).getD ByteArray.empty)),.sc (.bool b)])):=YM (vv:=(fun n=>.sc (.string n))) jQ eG aN (z:=ByteArray.empty) tS m k h
theorem ab8 (m:Mm Int ByteArray) (k:Int) (v:ByteArray):Cd.ok P G0 (.msB (D1 m) 117 (.sc (.int .i64 k)) (.sc (.string v)) (D1 (m.set k v))):=WH (vv:=(fun n=>.sc (.string n))) jQ eG aN m k v
def TQ (m:Mm ByteArray Bool):A5:=mB (fun n=>.string n) (fun n=>.sc (.bool n)) m
def Ig {n l:Nat} (m:Mm ByteArray Bool):FO n l:=some ⟨TQ m,TQ m,Jo fun _=>rfl⟩
theorem uC:P.underlying 131=some (.map 9 4):=by kernel_rfl
theorem tZ:P.underlying 9=some (.string):=by kernel_rfl
theorem ada:Hb P 4=some (.sc (.bool false)):=by kernel_rfl
theorem QS (m:Mm ByteArray Bool) (k:ByteArray) {b:Bool} (h:(m.get k).getD false=b):Cd.ok P G0 (.lkB (TQ m) 131 (.sc (.string k)) false (.sc (.bool b))):=by
 subst h
 exact Xp (vv:=(fun n=>.sc (.bool n))) uC tZ YO (z:=false) ada m k
theorem OC (m:Mm ByteArray Bool) (k:ByteArray) (v:Bool):Cd.ok P G0 (.msB (TQ m) 131 (.sc (.string k)) (.sc (.bool v)) (TQ (m.set k v))):=WH (vv:=(fun n=>.sc (.bool n))) uC tZ YO m k v
theorem ac4:P.underlying 160=some (.map 3 131):=by kernel_rfl
theorem abo:P.underlying 3=some (.int .i64):=by kernel_rfl
theorem K1 {es:List (Value×AV×Nat)} {cl j:Nat} {v:AV} {z:Int} (n:Int) (h:z=n) (hf:OM (.int .i64) (.int .i64 n) es 0=some (some (j,v))):Cd.ok P G0 (.lkB (.map es cl) 160 (.sc (.int .i64 z)) false v):=by
 subst h
 intro s id hg
 unfold F5
 simp [ac4,abo,MX,hg,hf,plainKey]
theorem P9 {a b:Int} {q:Bool} (h:some (Bp a b)=some q) (x y:Operand):IN P .eql 3 x y (.sc (.int .i64 a)) (.sc (.int .i64 b))=some (.sc (.bool q)):=by
 rw [← Jk]
 cases h
 kernel_rfl
theorem DW {a b:ByteArray} {q:Bool} (h:some (BC a.data.toList b.data.toList)=some q) (x y:Operand):IN P .eql 9 x y (.sc (.string a)) (.sc (.string b))=some (.sc (.bool q)):=by
 rw [← Jk]
 cases h
 kernel_rfl
theorem Uz {a b:Int} {q:Bool} (h:some (DH b a)=some q) (x y:Operand):IN P .gtr 3 x y (.sc (.int .i64 a)) (.sc (.int .i64 b))=some (.sc (.bool q)):=by
 rw [← Jk]
 cases h
 kernel_rfl
theorem ab0 {a b:Int} {q:Bool} (h:some (Kt a b)=some q) (x y:Operand):IN P .leq 3 x y (.sc (.int .i64 a)) (.sc (.int .i64 b))=some (.sc (.bool q)):=by
 rw [← Jk]
 cases h
 kernel_rfl
theorem tR {a b:Int} {q:Bool} (h:some (DH a b)=some q) (x y:Operand):IN P .lss 3 x y (.sc (.int .i64 a)) (.sc (.int .i64 b))=some (.sc (.bool q)):=by
 rw [← Jk]
 cases h
 kernel_rfl
theorem tI {a b:Int} {q:Bool} (h:some (!Bp a b)=some q) (x y:Operand):IN P .neq 3 x y (.sc (.int .i64 a)) (.sc (.int .i64 b))=some (.sc (.bool q)):=by
 rw [← Jk]
 cases h
 kernel_rfl
theorem Si {a b:ByteArray} {q:Bool} (h:some (!BC a.data.toList b.data.toList)=some q) (x y:Operand):IN P .neq 9 x y (.sc (.string a)) (.sc (.string b))=some (.sc (.bool q)):=by
 rw [← Jk]
 cases h
 kernel_rfl
def Iw:ByteArray:=⟨#[33,61]⟩
def PY:ByteArray:=⟨#[42]⟩
def K5:ByteArray:=⟨#[43]⟩
def Pe:ByteArray:=⟨#[45]⟩
def Kf:ByteArray:=⟨#[47]⟩
def PK:ByteArray:=⟨#[60]⟩
def Ix:ByteArray:=⟨#[60,61]⟩
def I2:ByteArray:=⟨#[61,61]⟩
def MC:ByteArray:=⟨#[97,109,111,117,110,116]⟩
def IP:ByteArray:=⟨#[97,110,100]⟩
def XX:ByteArray:=⟨#[97,114,116]⟩
def KY:ByteArray:=⟨#[97,114,116,105,99,108,101]⟩
def U0:ByteArray:=⟨#[97,116]⟩
def Oo:ByteArray:=⟨#[100,97,121]⟩
def M8:ByteArray:=⟨#[100,101,100,117,99,116]⟩
def SV:ByteArray:=⟨#[101,97,114,110]⟩
def Tn:ByteArray:=⟨#[102,97,99,116]⟩
def O6:ByteArray:=⟨#[102,97,108,115,101]⟩
def Pb:ByteArray:=⟨#[102,108,111,111,114]⟩
def Y5:ByteArray:=⟨#[102,111,114]⟩
def SY:ByteArray:=⟨#[102,114,111,109]⟩
def Ec:ByteArray:=⟨#[103,114,101,97,116,101,115,116]⟩
def Tp:ByteArray:=⟨#[105,110,102,111]⟩
def Pg:ByteArray:=⟨#[107,110,111,119,110]⟩
def Jt:ByteArray:=⟨#[108,101,97,115,116]⟩
def S3:ByteArray:=⟨#[108,105,110,101]⟩
def X6:ByteArray:=⟨#[109,105,110]⟩
def BM:ByteArray:=⟨#[109,105,110,117,116,101,115]⟩
def H8:ByteArray:=⟨#[109,111,110,116,104]⟩
def YV:ByteArray:=⟨#[110,111,116]⟩
def AF:ByteArray:=⟨#[110,117,109,98,101,114]⟩
def Um:ByteArray:=⟨#[111,114]⟩
def Sn:ByteArray:=⟨#[114,97,110,107]⟩
def O9:ByteArray:=⟨#[116,97,98,108,101]⟩
def u6:ByteArray:=⟨#[116,111]⟩
def SA:ByteArray:=⟨#[116,114,117,101]⟩
def Ak:ByteArray:=⟨#[116,114,117,116,104]⟩
def MI:ByteArray:=⟨#[117,110,108,101,115,115]⟩
def EV:ByteArray:=⟨#[119,101,101,107,100,97,121]⟩
def TB:ByteArray:=⟨#[119,104,101,110]⟩
def Ks:ByteArray:=⟨#[121,101,97,114]⟩
end Mo
end Go.Proofs.YtnijkdknnmgoeaaGreat
namespace Go.Proofs.YtnijkdknnmgoeaaGreat
open AI Go
namespace Mo
set_option maxRecDepth 100000
set_option maxHeartbeats 4000000
def yE (x:Pc):Prop:=(-9223372036854775808≤x.fr∧x.fr≤9223372036854775807)∧(-9223372036854775808≤x.att∧x.att≤9223372036854775807)∧(-9223372036854775808≤x.slope∧x.slope≤9223372036854775807)
def mN (x:Fn):Prop:=x.ps.length≤9223372036854775807∧(∀ y∈x.ps,yE y)
mutual
def FM:Nd→Prop
 | ⟨kind,name,unit,n,fr,to,known,tab,kids,att⟩=>mN tab∧kids.length≤9223372036854775807∧WV kids
def WV:List Nd→Prop
 | []=>True
 | k::ks=>FM k∧WV ks
end
theorem UY {l:List Nd}:WV l↔∀ k∈l,FM k:=by
 induction l with
 | nil=>simp [WV]
 | cons k l ih=>simp [WV,ih]
theorem Qa (x:Nd):FM x↔mN x.tab∧x.kids.length≤9223372036854775807∧∀ y∈x.kids,FM y:=by
 cases x;rw [FM,UY]
end Mo
end Go.Proofs.YtnijkdknnmgoeaaGreat
namespace AI
open Go
abbrev AV.zi (x:Int):AV:=.sc (.int .i64 x)
abbrev AV.zs (x:ByteArray):AV:=.sc (.string x)
abbrev AV.zb (x:Bool):AV:=.sc (.bool x)
abbrev bT:Value:=.bool true
abbrev bF:Value:=.bool false
theorem sJ {α:Type} {a b:α} {Q:Prop} (k:a=b→Q):some a=some b→Q:=fun h=>k (Option.some.inj h)
theorem Gv {α β:Type} {a b:α} {c d:β} {Q:Prop} (k:a=b→c=d→Q):some (a,c)=some (b,d)→Q:=fun h=>by cases h;exact k rfl rfl
theorem rT {P:Program} {G:A8} {c:Code} {fr:List AV} {s:AS} {x:Value} {fn:Func} {m:Nat} (l:List (PC P G)) (h:mW P fn (TP P G 300 c [] (pHs l) fr s)=some (dZ l,.sc x):=by kernel_rfl):W P G (XS P G) H0 c fr s (OH P fn m (fun r _=>∃ a,r=.ret a∧Fits 0 0 a (.sc x))):=rS (Ag 300 l) h
end AI
namespace Go.Proofs.YtnijkdknnmgoeaaGreat
open AI Go
namespace Mo
abbrev LP:=List (PC P G)
abbrev Iy (x:Nd) (r:List AV):List AV:=.zi x.kind::.zs x.name::.zs x.unit::.zi x.n::.zi x.fr::.zi x.to::.zi x.known::.zi x.tab.den::.sl .lost x.tab.ps.length (rows GY x.tab.ps)::.sl .lost x.kids.length (Cg x.kids)::.zi x.att::r
abbrev DM (t:Tr):List (Nat×A5):=[(3,(BA t.Af)),(2,(Bz t.lines)),(1,(Bz t.facts)),(0,.cells (GK 0 1 2 1 2 3 t))]
abbrev DI (t:Tr):List (Nat×Nat):=[(0,t.codex.facts.length),(1,t.codex.lines.length),(2,t.codex.arts.length)]
end Mo
end Go.Proofs.YtnijkdknnmgoeaaGreat
namespace Go.Proofs.YtnijkdknnmgoeaaGreat
open AI Go
namespace Mo
set_option maxRecDepth 100000
set_option maxHeartbeats 4000000
noncomputable def B74:Code:=AY Tryz.f74
theorem b74:Tryz.f74.body=some B74:=by kernel_rfl
noncomputable def Js (F9:Nd→Int→Option Int) (limit:Int) (i0:Nat) (e0:Nd) (out5:Int):Option (Lp Int Int Int):=cond (DH out5 limit) ((F9 e0 (Ua limit out5)).bind fun y1=>some (.nx (BW out5 y1))) (some (.ex out5))
noncomputable def JK (F9:Nd→Int→Option Int) (n:Nd) (limit:Int):Option Int:=cond (Kt limit 0) (some 0) ((GW n.kids.length (AL (fun i y x=>Js F9 limit i y x) (fun x=>x) (n.kids.drop 0) 0 1)).bind (GQ (fun (out5_2:Int)=>some out5_2) (fun v=>some v)))
theorem QQ (F9:Nd→Int→Option Int) (Sa:∀ {n:Nd} {limit:Int} {yR:Int},F9 n limit=some yR→Pure P G 74 [.agg (Bo n),.zi limit] (.zi yR)) {n:Nd} {limit:Int} {yR:Int} (h:JK F9 n limit=some yR):Pure P G 74 [.agg (Bo n),.zi limit] (.zi yR):=by
 unfold JK at h
 refine BF Hd.mixed Hd.Aa (Ay Tryz.func74 b74 ?_) (AW (Am.Dp n) (AW rfl rfl)) rfl
 revert h
 refine Ad (fun hb1=>?_) fun hb1=>?_
 rintro ⟨⟩
 exact rT [pb hb1]
 refine DF (fun Q v=>EQ P Tryz.f74 0 Q (.zi v)) (fun i0 (out5:Int) (j0:List Value)=>fr 33 [(1,.zi limit),(2,.ptr 0 0),(5,.zi out5),(6,.zi ((i0:Nat):Int))] [8,13,14,17,18] j0) (fun (out5:Int)=>⟨[(0,.cells (Bo n))],1,[],0⟩) (fun (out5:Int) (jx:List Value)=>fr 33 [(5,.zi out5)] [8,13,14,17,18] jx) (fun (out5:Int)=>⟨[(0,.cells (Bo n))],1,[],0⟩) [bF] (Dq [] 0 (sb B74 244) [.code (sb B74 31)] (Ag 300 [pb hb1]) (by kernel_rfl)) ?_ ?_ ?_ (fun v h=>by cases h;exact .outer .body)
 rintro i0 out5 j0 hge hq
 exact B1 (Ag 300 [pb (IJ hge)]) (by kernel_rfl) (hq [(jv j0 0),bF,bF,undef,bF])
 rintro i0 e0 out5 j0 r he0 hi0 mi0 k
 show Js F9 limit i0 e0 out5=some r→_
 unfold Js
 refine Ad (fun hb2=>?_) fun hb2=>?_
 refine Ah fun y1 hy1=>?_
 rintro ⟨⟩
 exact D9 (Ag 300 [pb (Fk hi0),pb hb2,BT (BQ .lost he0),pk,An (Sa hy1),pk,pi mi0]) (by kernel_rfl) (k [(jv j0 0),bT,bT,bT,bT])
 rintro ⟨⟩
 exact B1 (Ag 300 [pb (Fk hi0),pb hb2]) (by kernel_rfl) (k [(jv j0 0),bT,bT,bF,bF])
 rintro out5_2 jx_2
 rintro ⟨⟩
 exact Ap _ _ (BJ 300 []) (by kernel_rfl) .body .sc
noncomputable def E7:Nat→Nd→Int→Option Int
 | 0,_,_=>none
 | qn+1,n,limit=>JK (E7 qn) n limit
theorem RB:∀ qn:Nat,∀ {n:Nd} {limit:Int} {yR:Int},E7 qn n limit=some yR→Pure P G 74 [.agg (Bo n),.zi limit] (.zi yR):=by
 intro qn
 induction qn with
 | zero=>exact (fun h=>by simp only [E7] at h;cases h)
 | succ qn ih=>exact (fun h=>QQ (E7 qn) ih (by rw [E7] at h;exact h))
noncomputable def L1 (n:Nd) (limit:Int):Option Int:=W5 (fun qn=>E7 qn n limit)
theorem N4 {n:Nd} {limit:Int} {yR:Int} (h:L1 n limit=some yR):Pure P G 74 [.agg (Bo n),.zi limit] (.zi yR):=by
 obtain ⟨qn,h⟩:=Ru h
 exact (RB qn) h
noncomputable def B42:Code:=AY Tryz.f42
theorem b42:Tryz.f42.body=some B42:=by kernel_rfl
noncomputable def IH  (n:Nd) (limit:Int):Option Bool:=(L1 n (BW limit 1)).bind fun y1=>cond (Kt y1 limit) (some true) (some false)
theorem IX   {n:Nd} {limit:Int} {yR:Bool} (h:IH  n limit=some yR):Pure P G 42 [.agg (Bo n),.zi limit] (.zb yR):=by
 unfold IH at h
 refine BF Hd.mixed Hd.Aa (Ay Tryz.func42 b42 ?_) (AW (Am.Dp n) (AW rfl rfl)) rfl
 revert h
 refine Ah fun y1 hy1=>?_
 refine Ad (fun hb1=>?_) fun hb1=>?_
 rintro ⟨⟩
 exact rT [pk,An (N4 hy1),pb hb1]
 rintro ⟨⟩
 exact rT [pk,An (N4 hy1),pb hb1]
noncomputable def B43:Code:=AY Tryz.f43
theorem b43:Tryz.f43.body=some B43:=by kernel_rfl
noncomputable def JS (GB:Nd→Int→Option Bool) (limit:Int) (i0:Nat) (e0:Nd) :Option (Lp Unit Unit Bool):=(GB e0 (Ua limit 1)).bind fun y1=>cond y1 (some (.nx ())) (some (.rt false))
noncomputable def KA (GB:Nd→Int→Option Bool) (n:Nd) (limit:Int):Option Bool:=cond (DH limit 1) (some false) ((GW n.kids.length (AL (fun i y x=>JS GB limit i y ) (fun x=>()) (n.kids.drop 0) 0 ())).bind (GQ (fun (_:Unit)=>some true) (fun v=>some v)))
theorem Rl (GB:Nd→Int→Option Bool) (OO:∀ {n:Nd} {limit:Int} {yR:Bool},GB n limit=some yR→Pure P G 43 [.agg (Bo n),.zi limit] (.zb yR)) {n:Nd} {limit:Int} {yR:Bool} (h:KA GB n limit=some yR):Pure P G 43 [.agg (Bo n),.zi limit] (.zb yR):=by
 unfold KA at h
 refine BF Hd.mixed Hd.Aa (Ay Tryz.func43 b43 ?_) (AW (Am.Dp n) (AW rfl rfl)) rfl
 revert h
 refine Ad (fun hb1=>?_) fun hb1=>?_
 rintro ⟨⟩
 exact rT [pb hb1]
 refine DF (fun Q v=>EQ P Tryz.f43 0 Q (.zb v)) (fun i0 (_:Unit) (j0:List Value)=>fr 24 [(1,.zi limit),(2,.ptr 0 0),(5,.zi ((i0:Nat):Int))] [4,7,12,22,23] j0) (fun (_:Unit)=>⟨[(0,.cells (Bo n))],1,[],0⟩) (fun (_:Unit) (jx:List Value)=>fr 24 [] [4,7,12,22,23] jx) (fun (_:Unit)=>⟨[(0,.cells (Bo n))],1,[],0⟩) [bF,bF] (Dq [] 0 (sb B43 116) [.code (sb B43 15)] (Ag 300 [pb hb1]) (by kernel_rfl)) ?_ ?_ ?_ (fun v h=>by cases h;exact .outer .body)
 rintro i0 ⟨⟩ j0 hge hq
 exact B1 (Ag 300 [pb (IJ hge)]) (by kernel_rfl) (hq (js 5 j0 [(2,bF)]))
 rintro i0 e0 ⟨⟩ j0 r he0 hi0 mi0 k
 show JS GB limit i0 e0 =some r→_
 unfold JS
 refine Ah fun y1 hy1=>?_
 refine Ad (fun hv=>?_) fun hv=>?_
 subst hv
 rintro ⟨⟩
 exact D9 (Ag 300 [pb (Fk hi0),BT (BQ .lost he0),pk,An (OO hy1),pi mi0]) (by kernel_rfl) (k [(jv j0 0),(jv j0 1),bT,bT,bF])
 subst hv
 rintro ⟨⟩
 exact Ap _ _ (Ag 300 [pb (Fk hi0),BT (BQ .lost he0),pk,An (OO hy1)]) (by kernel_rfl) (.Em k) .sc
 rintro ⟨⟩ jx_2
 rintro ⟨⟩
 exact Ap _ _ (BJ 300 []) (by kernel_rfl) .body .sc
noncomputable def FT:Nat→Nd→Int→Option Bool
 | 0,_,_=>none
 | qn+1,n,limit=>KA (FT qn) n limit
theorem TG:∀ qn:Nat,∀ {n:Nd} {limit:Int} {yR:Bool},FT qn n limit=some yR→Pure P G 43 [.agg (Bo n),.zi limit] (.zb yR):=by
 intro qn
 induction qn with
 | zero=>exact (fun h=>by simp only [FT] at h;cases h)
 | succ qn ih=>exact (fun h=>Rl (FT qn) ih (by rw [FT] at h;exact h))
noncomputable def Jh (n:Nd) (limit:Int):Option Bool:=W5 (fun qn=>FT qn n limit)
theorem OP {n:Nd} {limit:Int} {yR:Bool} (h:Jh n limit=some yR):Pure P G 43 [.agg (Bo n),.zi limit] (.zb yR):=by
 obtain ⟨qn,h⟩:=Ru h
 exact (TG qn) h
noncomputable def B12:Code:=AY Tryz.f12
theorem b12:Tryz.f12.body=some B12:=by kernel_rfl
noncomputable def I1  (n:Nd):Option Bool:=(IH n 2100).bind fun y1=>cond y1 ((Jh n 100).bind fun y2=>some y2) (some false)
theorem Rr   {n:Nd} {yR:Bool} (h:I1  n=some yR):Pure P G 12 [.agg (Bo n)] (.zb yR):=by
 unfold I1 at h
 refine BF Hd.mixed Hd.Aa (Ay Tryz.func12 b12 ?_) (AW (Am.Dp n) rfl) rfl
 revert h
 refine Ah fun y1 hy1=>?_
 refine Ad (fun hv=>?_) fun hv=>?_
 subst hv
 refine Ah fun y2 hy2=>?_
 rintro ⟨⟩
 exact rT [An (IX hy1),An (OP hy2)]
 subst hv
 rintro ⟨⟩
 exact rT [An (IX hy1)]
noncomputable def B77:Code:=AY Tryz.f77
theorem b77:Tryz.f77.body=some B77:=by kernel_rfl
noncomputable def BI  (c:Ck) (n:Nd) (depth:Int):Option (Bool×Int):=cond (Kt (BW c.nodes 1) 2000) ((some (Kt depth 40)).bind fun q1=>some (q1,(BW c.nodes 1))) (some (false,(BW c.nodes 1)))
theorem D4 {c:Ck} {n:Nd} {depth:Int} {yR:Bool} {qc_nodesR:Int} (hS:Sound P G (.call 77 [.ptr 0 0,.agg (Bo n),.zi depth] ⟨[(0,.cells (He c))],1,[],0⟩ (.ret (.zb yR)) ⟨[(0,.cells [.zi qc_nodesR])],1,[],0⟩)) (u0:Nat) (hnb:([u0]:List Nat).Nodup:=by decide) (hnt:([]:List Nat).Nodup:=by decide):Cd.ok P G (.callU 77 [.ptr u0 0,.agg (Bo n),.zi depth] (.ret (.zb yR)) [(u0,.cells (He c))] [] [(u0,.cells [.zi qc_nodesR])] []) :=
 CS (M:=[.cells (He c)]) (M2:=[.cells [.zi qc_nodesR]]) (T:=[]) (T2:=[]) (k:=1) (j:=0) Hd.Aa _ _ _ _ hS rfl rfl rfl rfl rfl hnb hnt rfl rfl (.cons (.cells (.pl (Ni.pl c))) .nil) (.cons (.cells (.pl (AW rfl rfl))) .nil) (.cons (.ptr (by decide)) (.cons (.pl (Am.Dp n)) (.cons (.pl rfl) .nil))) (.pl rfl) (fun e he=>by simp only [List.mem_singleton] at he;subst he;exact (.arg (.here .ptr)))
theorem Df   {c:Ck} {n:Nd} {depth:Int} {yR:Bool} {qc_nodesR:Int} (h:BI  c n depth=some (yR,qc_nodesR)):Sound P G (.call 77 [.ptr 0 0,.agg (Bo n),.zi depth] ⟨[(0,.cells (He c))],1,[],0⟩ (.ret (.zb yR)) ⟨[(0,.cells [.zi qc_nodesR])],1,[],0⟩):=by
 unfold BI at h
 refine CT Hd.mixed (Ay Tryz.func77 b77 ?_)
 revert h
 refine Ad (fun hb1=>?_) fun hb1=>?_
 refine Ah fun q1 hq1=>?_
 rintro ⟨⟩
 exact Ao Hd.Aa _ _ [] [none] (Ag 300 [pk,pb hb1,CD (ab0 hq1 (.tmp 20) (.const (.int .i64 40)))]) (by kernel_rfl) .body
 rintro ⟨⟩
 exact Ao Hd.Aa _ _ [] [none] (Ag 300 [pk,pb hb1]) (by kernel_rfl) .body
noncomputable def wN:Code:=AY Tryz.f100
theorem adT:Tryz.f100.body=some wN:=by kernel_rfl
noncomputable def KQ  (s2:(List Pc)) (i0:Nat) (e0:Pc) :Option (Lp Unit Unit Bool):=(s2[i0]?).bind fun x1=>cond (MY e0 x1) (some (.nx ())) (some (.rt false))
noncomputable def HE  (s1:(List Pc)) (s2:(List Pc)):Option Bool:=cond (Bp ((s1.length:Nat):Int) ((s2.length:Nat):Int)) ((GW s1.length (AL (fun i y x=>KQ  s2 i y ) (fun x=>()) (s1.drop 0) 0 ())).bind (GQ (fun (_:Unit)=>some true) (fun v=>some v))) (some false)
theorem Th   {s1:(List Pc)} {s2:(List Pc)} {yR:Bool} (h:HE  s1 s2=some yR):Pure P G 100 [.sl .lost s1.length (rows GY s1),.sl .lost s2.length (rows GY s2)] (.zb yR):=by
 unfold HE at h
 refine BF Hd.mixed Hd.Aa (Ay Tryz.func100 adT ?_) (AW (Ch.Bk s1) (AW (Ch.Bk s2) rfl)) rfl
 revert h
 refine Ad (fun hb1=>?_) fun hb1=>?_
 refine DF (fun Q v=>EQ P Tryz.f100 0 Q (.zb v)) (fun i0 (_:Unit) (j0:List Value)=>fr 26 [(0,.sl .lost s1.length (rows GY s1)),(1,.sl .lost s2.length (rows GY s2)),(12,.zi ((s1.length:Nat):Int)),(13,.zi ((i0:Nat):Int))] [4,10,14,24] j0) (fun (_:Unit)=>⟨[],0,[],0⟩) (fun (_:Unit) (jx:List Value)=>fr 26 [] [4,10,14,24] jx) (fun (_:Unit)=>⟨[],0,[],0⟩) [bF,bF] (Dq [] 0 (sb wN 116) [.code (sb wN 15)] (Ag 300 [pn hb1]) (by kernel_rfl)) ?_ ?_ ?_ (fun v h=>by cases h;exact .outer .body)
 rintro i0 ⟨⟩ j0 hge hq
 exact B1 (Ag 300 [pb (IJ hge)]) (by kernel_rfl) (hq (js 4 j0 [(2,bF)]))
 rintro i0 e0 ⟨⟩ j0 r he0 hi0 mi0 k
 show KQ  s2 i0 e0 =some r→_
 unfold KQ
 refine Ah fun x1 hx1=>?_
 refine Ad (fun hb2=>?_) fun hb2=>?_
 rintro ⟨⟩
 exact D9 (Ag 300 [pb (Fk hi0),BT (QB .lost he0),BT (QB .lost hx1),CD (VY hb2 (.tmp 19) (.tmp 23)),pi mi0]) (by kernel_rfl) (k (js 4 j0 [(2,bT),(3,bF)]))
 rintro ⟨⟩
 exact Ap _ _ (Ag 300 [pb (Fk hi0),BT (QB .lost he0),BT (QB .lost hx1),CD (VY hb2 (.tmp 19) (.tmp 23))]) (by kernel_rfl) (.Em k) .sc
 rintro ⟨⟩ jx_2
 rintro ⟨⟩
 exact Ap _ _ (BJ 300 []) (by kernel_rfl) .body .sc
 rintro ⟨⟩
 exact rT [pn hb1]
noncomputable def B78:Code:=AY Tryz.f78
theorem b78:Tryz.f78.body=some B78:=by kernel_rfl
noncomputable def Bx  (n:Nd) (fields:Nd):Option Bool:=cond (BC n.name.data.toList fields.name.data.toList) (cond (BC n.unit.data.toList fields.unit.data.toList) (cond (Bp n.n fields.n) (cond (Bp n.fr fields.fr) (cond (Bp n.to fields.to) (cond (Bp n.known fields.known) (cond (Bp n.tab.den fields.tab.den) ((HE n.tab.ps fields.tab.ps).bind fun y1=>some y1) (some false)) (some false)) (some false)) (some false)) (some false)) (some false)) (some false)
theorem BD   {n:Nd} {fields:Nd} {yR:Bool} (h:Bx  n fields=some yR):Pure P G 78 [.agg (Bo n),.agg (Bo fields)] (.zb yR):=by
 unfold Bx at h
 refine BF Hd.mixed Hd.Aa (Ay Tryz.func78 b78 ?_) (AW (Am.Dp n) (AW (Am.Dp fields) rfl)) rfl
 revert h
 refine Ad (fun hb1=>?_) fun hb1=>?_
 refine Ad (fun hb2=>?_) fun hb2=>?_
 let o1:LP:=[pn hb1,pn hb2]
 refine Ad (fun hb3=>?_) fun hb3=>?_
 refine Ad (fun hb4=>?_) fun hb4=>?_
 refine Ad (fun hb5=>?_) fun hb5=>?_
 refine Ad (fun hb6=>?_) fun hb6=>?_
 refine Ad (fun hb7=>?_) fun hb7=>?_
 refine Ah fun y1 hy1=>?_
 rintro ⟨⟩
 exact rT (o1++[pn hb3,pn hb4,pn hb5,pn hb6,pb hb7,An (Th hy1)])
 rintro ⟨⟩
 exact rT (o1++[pn hb3,pn hb4,pn hb5,pn hb6,pb hb7])
 rintro ⟨⟩
 exact rT (o1++[pn hb3,pn hb4,pn hb5,pn hb6])
 rintro ⟨⟩
 exact rT (o1++[pn hb3,pn hb4,pn hb5])
 rintro ⟨⟩
 exact rT (o1++[pn hb3,pn hb4])
 rintro ⟨⟩
 exact rT (o1++[pn hb3])
 rintro ⟨⟩
 exact rT [pn hb1,pn hb2]
 rintro ⟨⟩
 exact rT [pn hb1]
noncomputable def yB:Code:=AY Tryz.f161
theorem aej:Tryz.f161.body=some yB:=by kernel_rfl
noncomputable def Ha   (i0:Nat) (e0:UInt8) :Option (Lp Unit Unit Bool):=cond (DH ((e0.toNat:Nat):Int) 65) (some (.rt false)) (cond (DH 90 ((e0.toNat:Nat):Int)) (some (.rt false)) (some (.nx ())))
noncomputable def Gh  (text:ByteArray):Option Bool:=cond (Bp ((text.data.toList.length:Nat):Int) 3) ((GW text.data.toList.length (AL (fun i y x=>Ha   i y ) (fun x=>()) (text.data.toList.drop 0) 0 ())).bind (GQ (fun (_:Unit)=>some true) (fun v=>some v))) (some false)
theorem Ou   {text:ByteArray} {yR:Bool} (h:Gh  text=some yR):Pure P G 161 [.zs text] (.zb yR):=by
 unfold Gh at h
 refine BF Hd.mixed Hd.Aa (Ay Tryz.func161 aej ?_) (AW rfl rfl) rfl
 revert h
 refine Ad (fun hb1=>?_) fun hb1=>?_
 refine DF (fun Q v=>EQ P Tryz.f161 0 Q (.zb v)) (fun i0 (_:Unit) (j0:List Value)=>fr 23 [(0,.zs text),(8,.zi ((text.data.toList.length:Nat):Int)),(9,.zi ((i0:Nat):Int))] [2,6,10,15,16,20,21] j0) (fun (_:Unit)=>⟨[],0,[],0⟩) (fun (_:Unit) (jx:List Value)=>fr 23 [] [2,6,10,15,16,20,21] jx) (fun (_:Unit)=>⟨[],0,[],0⟩) [bF,bF] (Dq [] 0 (sb yB 116) [.code (sb yB 15)] (Ag 300 [pn hb1]) (by kernel_rfl)) ?_ ?_ ?_ (fun v h=>by cases h;exact .outer .body)
 rintro i0 ⟨⟩ j0 hge hq
 exact B1 (Ag 300 [pb (IJ hge)]) (by kernel_rfl) (hq (js 7 j0 [(2,bF)]))
 rintro i0 e0 ⟨⟩ j0 r he0 hi0 mi0 k
 show Ha   i0 e0 =some r→_
 unfold Ha
 refine Ad (fun hb2=>?_) fun hb2=>?_
 rintro ⟨⟩
 exact Ap _ _ (Ag 300 [pb (Fk hi0),R6 (KP he0),pb hb2]) (by kernel_rfl) (.Em k) .sc
 refine Ad (fun hb3=>?_) fun hb3=>?_
 rintro ⟨⟩
 exact Ap _ _ (Ag 300 [pb (Fk hi0),R6 (KP he0),pb hb2,R6 (KP he0),pb hb3]) (by kernel_rfl) (.Em k) .sc
 rintro ⟨⟩
 exact D9 (Ag 300 [pb (Fk hi0),R6 (KP he0),pb hb2,R6 (KP he0),pb hb3,pi mi0]) (by kernel_rfl) (k [(jv j0 0),(jv j0 1),bT,bF,bF,bF,bF])
 rintro ⟨⟩ jx_1
 rintro ⟨⟩
 exact Ap _ _ (BJ 300 []) (by kernel_rfl) .body .sc
 rintro ⟨⟩
 exact rT [pn hb1]
noncomputable def aeH:Code:=AY Tryz.f119
theorem aew:Tryz.f119.body=some aeH:=by kernel_rfl
noncomputable def DP  (text:ByteArray):Option Bool:=cond (BC text.data.toList Ak.data.toList) (some true) (cond (BC text.data.toList AF.data.toList) (some true) (cond (BC text.data.toList BM.data.toList) (some true) ((Gh text).bind fun y1=>some y1)))
theorem Eo   {text:ByteArray} {yR:Bool} (h:DP  text=some yR):Pure P G 119 [.zs text] (.zb yR):=by
 unfold DP at h
 refine BF Hd.mixed Hd.Aa (Ay Tryz.func119 aew ?_) (AW rfl rfl) rfl
 revert h
 refine Ad (fun hb1=>?_) fun hb1=>?_
 rintro ⟨⟩
 exact rT [pb hb1]
 refine Ad (fun hb2=>?_) fun hb2=>?_
 rintro ⟨⟩
 exact rT [pb hb1,pb hb2]
 refine Ad (fun hb3=>?_) fun hb3=>?_
 rintro ⟨⟩
 exact rT [pb hb1,pb hb2,pb hb3]
 refine Ah fun y1 hy1=>?_
 rintro ⟨⟩
 exact rT [pb hb1,pb hb2,pb hb3,An (Ou hy1)]
noncomputable def ad4:Code:=AY Tryz.f162
theorem adD:Tryz.f162.body=some ad4:=by kernel_rfl
noncomputable def Fo  (word:ByteArray):Option Bool:=cond (BC word.data.toList Tn.data.toList) (some true) (cond (BC word.data.toList S3.data.toList) (some true) (cond (BC word.data.toList KY.data.toList) (some true) (cond (BC word.data.toList Y5.data.toList) (some true) (cond (BC word.data.toList Sn.data.toList) (some true) (cond (BC word.data.toList SY.data.toList) (some true) (cond (BC word.data.toList u6.data.toList) (some true) (cond (BC word.data.toList Pg.data.toList) (some true) (cond (BC word.data.toList TB.data.toList) (some true) (cond (BC word.data.toList MI.data.toList) (some true) (cond (BC word.data.toList MC.data.toList) (some true) (cond (BC word.data.toList Ak.data.toList) (some true) (cond (BC word.data.toList AF.data.toList) (some true) (cond (BC word.data.toList BM.data.toList) (some true) (cond (BC word.data.toList X6.data.toList) (some true) (cond (BC word.data.toList SV.data.toList) (some true) (cond (BC word.data.toList M8.data.toList) (some true) (cond (BC word.data.toList Pb.data.toList) (some true) (cond (BC word.data.toList Tp.data.toList) (some true) (cond (BC word.data.toList Um.data.toList) (some true) (cond (BC word.data.toList IP.data.toList) (some true) (cond (BC word.data.toList YV.data.toList) (some true) (cond (BC word.data.toList U0.data.toList) (some true) (cond (BC word.data.toList SA.data.toList) (some true) (cond (BC word.data.toList O6.data.toList) (some true) (cond (BC word.data.toList XX.data.toList) (some true) (cond (BC word.data.toList EV.data.toList) (some true) (cond (BC word.data.toList Oo.data.toList) (some true) (cond (BC word.data.toList H8.data.toList) (some true) (cond (BC word.data.toList Ks.data.toList) (some true) (cond (BC word.data.toList Jt.data.toList) (some true) (cond (BC word.data.toList Ec.data.toList) (some true) (cond (BC word.data.toList O9.data.toList) (some true) (some false)))))))))))))))))))))))))))))))))
theorem LB   {word:ByteArray} {yR:Bool} (h:Fo  word=some yR):Pure P G 162 [.zs word] (.zb yR):=by
 unfold Fo at h
 refine BF Hd.mixed Hd.Aa (Ay Tryz.func162 adD ?_) (AW rfl rfl) rfl
 revert h
 refine Ad (fun hb1=>?_) fun hb1=>?_
 rintro ⟨⟩
 exact rT [pb hb1]
 let o1:LP:=[pb hb1]
 refine Ad (fun hb2=>?_) fun hb2=>?_
 rintro ⟨⟩
 exact rT (o1++[pb hb2])
 let o2:LP:=o1++[pb hb2]
 refine Ad (fun hb3=>?_) fun hb3=>?_
 rintro ⟨⟩
 exact rT (o2++[pb hb3])
 let o3:LP:=o2++[pb hb3]
 refine Ad (fun hb4=>?_) fun hb4=>?_
 rintro ⟨⟩
 exact rT (o3++[pb hb4])
 let o4:LP:=o3++[pb hb4]
 refine Ad (fun hb5=>?_) fun hb5=>?_
 rintro ⟨⟩
 exact rT (o4++[pb hb5])
 let o5:LP:=o4++[pb hb5]
 refine Ad (fun hb6=>?_) fun hb6=>?_
 rintro ⟨⟩
 exact rT (o5++[pb hb6])
 let o6:LP:=o5++[pb hb6]
 refine Ad (fun hb7=>?_) fun hb7=>?_
 rintro ⟨⟩
 exact rT (o6++[pb hb7])
 let o7:LP:=o6++[pb hb7]
 refine Ad (fun hb8=>?_) fun hb8=>?_
 rintro ⟨⟩
 exact rT (o7++[pb hb8])
 let o8:LP:=o7++[pb hb8]
 refine Ad (fun hb9=>?_) fun hb9=>?_
 rintro ⟨⟩
 exact rT (o8++[pb hb9])
 let o9:LP:=o8++[pb hb9]
 refine Ad (fun hb10=>?_) fun hb10=>?_
 rintro ⟨⟩
 exact rT (o9++[pb hb10])
 let o10:LP:=o9++[pb hb10]
 refine Ad (fun hb11=>?_) fun hb11=>?_
 rintro ⟨⟩
 exact rT (o10++[pb hb11])
 let o11:LP:=o10++[pb hb11]
 refine Ad (fun hb12=>?_) fun hb12=>?_
 rintro ⟨⟩
 exact rT (o11++[pb hb12])
 let o12:LP:=o11++[pb hb12]
 refine Ad (fun hb13=>?_) fun hb13=>?_
 rintro ⟨⟩
 exact rT (o12++[pb hb13])
 let o13:LP:=o12++[pb hb13]
 refine Ad (fun hb14=>?_) fun hb14=>?_
 rintro ⟨⟩
 exact rT (o13++[pb hb14])
 let o14:LP:=o13++[pb hb14]
 refine Ad (fun hb15=>?_) fun hb15=>?_
 rintro ⟨⟩
 exact rT (o14++[pb hb15])
 let o15:LP:=o14++[pb hb15]
 refine Ad (fun hb16=>?_) fun hb16=>?_
 rintro ⟨⟩
 exact rT (o15++[pb hb16])
 let o16:LP:=o15++[pb hb16]
 refine Ad (fun hb17=>?_) fun hb17=>?_
 rintro ⟨⟩
 exact rT (o16++[pb hb17])
 let o17:LP:=o16++[pb hb17]
 refine Ad (fun hb18=>?_) fun hb18=>?_
 rintro ⟨⟩
 exact rT (o17++[pb hb18])
 let o18:LP:=o17++[pb hb18]
 refine Ad (fun hb19=>?_) fun hb19=>?_
 rintro ⟨⟩
 exact rT (o18++[pb hb19])
 let o19:LP:=o18++[pb hb19]
 refine Ad (fun hb20=>?_) fun hb20=>?_
 rintro ⟨⟩
 exact rT (o19++[pb hb20])
 let o20:LP:=o19++[pb hb20]
 refine Ad (fun hb21=>?_) fun hb21=>?_
 rintro ⟨⟩
 exact rT (o20++[pb hb21])
 let o21:LP:=o20++[pb hb21]
 refine Ad (fun hb22=>?_) fun hb22=>?_
 rintro ⟨⟩
 exact rT (o21++[pb hb22])
 let o22:LP:=o21++[pb hb22]
 refine Ad (fun hb23=>?_) fun hb23=>?_
 rintro ⟨⟩
 exact rT (o22++[pb hb23])
 let o23:LP:=o22++[pb hb23]
 refine Ad (fun hb24=>?_) fun hb24=>?_
 rintro ⟨⟩
 exact rT (o23++[pb hb24])
 let lL:LP:=o23++[pb hb24]
 refine Ad (fun hb25=>?_) fun hb25=>?_
 rintro ⟨⟩
 exact rT (lL++[pb hb25])
 refine Ad (fun hb26=>?_) fun hb26=>?_
 rintro ⟨⟩
 exact rT (lL++[pb hb25,pb hb26])
 let o25:LP:=lL++[pb hb25,pb hb26]
 refine Ad (fun hb27=>?_) fun hb27=>?_
 rintro ⟨⟩
 exact rT (o25++[pb hb27])
 refine Ad (fun hb28=>?_) fun hb28=>?_
 rintro ⟨⟩
 exact rT (o25++[pb hb27,pb hb28])
 let o26:LP:=o25++[pb hb27,pb hb28]
 refine Ad (fun hb29=>?_) fun hb29=>?_
 rintro ⟨⟩
 exact rT (o26++[pb hb29])
 refine Ad (fun hb30=>?_) fun hb30=>?_
 rintro ⟨⟩
 exact rT (o26++[pb hb29,pb hb30])
 refine Ad (fun hb31=>?_) fun hb31=>?_
 rintro ⟨⟩
 exact rT (o26++[pb hb29,pb hb30,pb hb31])
 refine Ad (fun hb32=>?_) fun hb32=>?_
 rintro ⟨⟩
 exact rT (o26++[pb hb29,pb hb30,pb hb31,pb hb32])
 refine Ad (fun hb33=>?_) fun hb33=>?_
 rintro ⟨⟩
 exact rT (o26++[pb hb29,pb hb30,pb hb31,pb hb32,pb hb33])
 rintro ⟨⟩
 exact rT (o26++[pb hb29,pb hb30,pb hb31,pb hb32,pb hb33])
noncomputable def uH:Code:=AY Tryz.f120
theorem aeA:Tryz.f120.body=some uH:=by kernel_rfl
noncomputable def Fq   (i0:Nat) (e0:UInt8) :Option (Lp Unit Unit Bool):=cond (DH ((e0.toNat:Nat):Int) 97) (cond (DH ((e0.toNat:Nat):Int) 48) (some (.rt false)) (cond (DH 57 ((e0.toNat:Nat):Int)) (cond (Bp ((e0.toNat:Nat):Int) 95) (some (.nx ())) (some (.rt false))) (some (.nx ())))) (cond (DH 122 ((e0.toNat:Nat):Int)) (some (.rt false)) (some (.nx ())))
noncomputable def Cu  (text:ByteArray):Option Bool:=cond (BC text.data.toList ByteArray.empty.data.toList) (some false) (cond (DH 16 ((text.data.toList.length:Nat):Int)) (some false) ((text.data.toList[0]?).bind fun c1=>cond (DH ((c1.toNat:Nat):Int) 97) (some false) (cond (DH 122 ((c1.toNat:Nat):Int)) (some false) ((Fo text).bind fun y2=>cond y2 (some false) ((GW text.data.toList.length (AL (fun i y x=>Fq   i y ) (fun x=>()) (text.data.toList.drop 0) 0 ())).bind (GQ (fun (_:Unit)=>some true) (fun v=>some v)))))))
theorem FZ   {text:ByteArray} {yR:Bool} (h:Cu  text=some yR):Pure P G 120 [.zs text] (.zb yR):=by
 unfold Cu at h
 refine BF Hd.mixed Hd.Aa (Ay Tryz.func120 aeA ?_) (AW rfl rfl) rfl
 revert h
 refine Ad (fun hb1=>?_) fun hb1=>?_
 rintro ⟨⟩
 exact rT [pb hb1]
 refine Ad (fun hb2=>?_) fun hb2=>?_
 rintro ⟨⟩
 exact rT [pb hb1,pb hb2]
 refine Ah fun c1 hc1=>?_
 let o1:LP:=[pb hb1,pb hb2,R6 (KP hc1)]
 refine Ad (fun hb3=>?_) fun hb3=>?_
 rintro ⟨⟩
 exact rT (o1++[pb hb3])
 refine Ad (fun hb4=>?_) fun hb4=>?_
 rintro ⟨⟩
 exact rT (o1++[pb hb3,R6 (KP hc1),pb hb4])
 refine Ah fun y2 hy2=>?_
 refine Ad (fun hv=>?_) fun hv=>?_
 subst hv
 rintro ⟨⟩
 exact rT (o1++[pb hb3,R6 (KP hc1),pb hb4,An (LB hy2)])
 subst hv
 refine DF (fun Q v=>EQ P Tryz.f120 0 Q (.zb v)) (fun i0 (_:Unit) (j0:List Value)=>fr 53 [(0,.zs text),(27,.zi ((text.data.toList.length:Nat):Int)),(28,.zi ((i0:Nat):Int))] [2,6,7,10,11,12,15,16,17,20,21,22,24,25,29,35,36,38,39,40,42,43,45,46,47,48,50,51] j0) (fun (_:Unit)=>⟨[],0,[],0⟩) (fun (_:Unit) (jx:List Value)=>fr 53 [] [2,6,7,10,11,12,15,16,17,20,21,22,24,25,29,35,36,38,39,40,42,43,45,46,47,48,50,51] jx) (fun (_:Unit)=>⟨[],0,[],0⟩) [bF,bF,bF,bF,bF,bF,bF,bF,bF,bF,bF,bF,bF,bF] (Dq [] 0 (sb uH 116) [.code (sb uH 15)] (Ag 300 (o1++[pb hb3,R6 (KP hc1),pb hb4,An (LB hy2)])) (by kernel_rfl)) ?_ ?_ ?_ (fun v h=>by cases h;exact .outer .body)
 rintro i0 ⟨⟩ j0 hge hq
 exact B1 (Ag 300 [pb (IJ hge)]) (by kernel_rfl) (hq (js 28 j0 [(14,bF)]))
 rintro i0 e0 ⟨⟩ j0 r he0 hi0 mi0 k
 show Fq   i0 e0 =some r→_
 unfold Fq
 let o2:LP:=[pb (Fk hi0),R6 (KP he0)]
 refine Ad (fun hb5=>?_) fun hb5=>?_
 refine Ad (fun hb6=>?_) fun hb6=>?_
 rintro ⟨⟩
 exact Ap _ _ (Ag 300 (o2++[pb hb5,pb hb6,pn (B:=Bp ((e0.toNat:Nat):Int) 95) (b:=false) (sI (by have:=Ra hb5;have:=Ra hb6;omega))])) (by kernel_rfl) (.Em k) .sc
 refine Ad (fun hb7=>?_) fun hb7=>?_
 refine Ad (fun hb8=>?_) fun hb8=>?_
 rintro ⟨⟩
 exact D9 (Ag 300 (o2++[pb hb5,pb hb6,pb hb7,pn hb8,pi mi0])) (by kernel_rfl) (k (js 28 j0 [(14,bT),(15,bT),(16,bT),(17,undef),(18,bT),(19,bT),(20,bF),(21,bF),(22,bT),(23,bT),(24,bT),(25,bT),(26,bF),(27,bF)]))
 rintro ⟨⟩
 exact Ap _ _ (Ag 300 (o2++[pb hb5,pb hb6,pb hb7,pn hb8])) (by kernel_rfl) (.Em k) .sc
 rintro ⟨⟩
 exact D9 (Ag 300 (o2++[pb hb5,pb hb6,pb hb7,pi mi0])) (by kernel_rfl) (k (js 28 j0 [(14,bT),(15,bT),(16,bT),(17,undef),(18,bT),(19,bT),(20,bF),(21,bF),(22,bF),(23,bF),(24,bF),(25,bF),(26,undef),(27,bF)]))
 refine Ad (fun hb9=>?_) fun hb9=>?_
 rintro ⟨⟩
 exact Ap _ _ (Ag 300 (o2++[pb hb5,pb hb9,pb (B:=DH ((e0.toNat:Nat):Int) 48) (b:=false) (fL (by have:=kY hb5;have:=Ra hb9;omega)),pb (B:=DH 57 ((e0.toNat:Nat):Int)) (b:=true) (acH (by have:=kY hb5;have:=Ra hb9;omega)),pn (B:=Bp ((e0.toNat:Nat):Int) 95) (b:=false) (sI (by have:=kY hb5;have:=Ra hb9;omega))])) (by kernel_rfl) (.Em k) .sc
 rintro ⟨⟩
 exact D9 (Ag 300 (o2++[pb hb5,pb hb9,pi mi0])) (by kernel_rfl) (k (js 28 j0 [(14,bT),(15,bF),(16,bF),(17,bF),(18,bF),(19,bF),(20,undef),(21,undef),(22,undef),(23,undef),(24,bF),(25,bF),(26,undef),(27,bF)]))
 rintro ⟨⟩ jx_3
 rintro ⟨⟩
 exact Ap _ _ (BJ 300 []) (by kernel_rfl) .body .sc
noncomputable def afg:Code:=AY Tryz.f121
theorem ae9:Tryz.f121.body=some afg:=by kernel_rfl
noncomputable def CW  (n:Int):Option Bool:=cond (Kt 1 n) (cond (Kt n 1000000) (some true) (some false)) (some false)
theorem FC   {n:Int} {yR:Bool} (h:CW  n=some yR):Pure P G 121 [.zi n] (.zb yR):=by
 unfold CW at h
 refine BF Hd.mixed Hd.Aa (Ay Tryz.func121 ae9 ?_) (AW rfl rfl) rfl
 revert h
 refine Ad (fun hb1=>?_) fun hb1=>?_
 refine Ad (fun hb2=>?_) fun hb2=>?_
 rintro ⟨⟩
 exact rT [pb hb1,pb hb2]
 rintro ⟨⟩
 exact rT [pb hb1,pb hb2]
 rintro ⟨⟩
 exact rT [pb hb1]
noncomputable def aeI:Code:=AY Tryz.f122
theorem ae5:Tryz.f122.body=some aeI:=by kernel_rfl
noncomputable def ET  (word:ByteArray):Option Bool:=cond (BC word.data.toList EV.data.toList) (some true) (cond (BC word.data.toList Oo.data.toList) (some true) (cond (BC word.data.toList H8.data.toList) (some true) (cond (BC word.data.toList Ks.data.toList) (some true) (some false))))
theorem MZ   {word:ByteArray} {yR:Bool} (h:ET  word=some yR):Pure P G 122 [.zs word] (.zb yR):=by
 unfold ET at h
 refine BF Hd.mixed Hd.Aa (Ay Tryz.func122 ae5 ?_) (AW rfl rfl) rfl
 revert h
 refine Ad (fun hb1=>?_) fun hb1=>?_
 rintro ⟨⟩
 exact rT [pb hb1]
 refine Ad (fun hb2=>?_) fun hb2=>?_
 rintro ⟨⟩
 exact rT [pb hb1,pb hb2]
 refine Ad (fun hb3=>?_) fun hb3=>?_
 rintro ⟨⟩
 exact rT [pb hb1,pb hb2,pb hb3]
 refine Ad (fun hb4=>?_) fun hb4=>?_
 rintro ⟨⟩
 exact rT [pb hb1,pb hb2,pb hb3,pb hb4]
 rintro ⟨⟩
 exact rT [pb hb1,pb hb2,pb hb3,pb hb4]
noncomputable def aaa:Code:=AY Tryz.f124
theorem adQ:Tryz.f124.body=some aaa:=by kernel_rfl
noncomputable def Ge  (f:Fn) (i0:Nat) (e0:Pc) :Option (Lp Unit Unit Bool):=cond (DH 999999999999 e0.fr) (some (.rt false)) (cond (DH 0 ((i0:Nat):Int)) ((CP f.ps (Ua ((i0:Nat):Int) 1)).bind fun x3=>cond (Kt e0.fr x3.fr) (some (.rt false)) ((T4 e0.att f.den).bind fun z4=>cond (Bp z4 0) (cond (DH (Ub 999999999999 f.den) e0.att) (some (.rt false)) (cond (DH e0.att (Ub (-999999999999) f.den)) (some (.rt false)) (cond (DH 1000000 e0.slope) (some (.rt false)) (cond (DH e0.slope (-1000000)) (some (.rt false)) (some (.nx ())))))) (some (.rt false)))) ((T4 e0.att f.den).bind fun z5=>cond (Bp z5 0) (cond (DH (Ub 999999999999 f.den) e0.att) (some (.rt false)) (cond (DH e0.att (Ub (-999999999999) f.den)) (some (.rt false)) (cond (DH 1000000 e0.slope) (some (.rt false)) (cond (DH e0.slope (-1000000)) (some (.rt false)) (some (.nx ())))))) (some (.rt false))))
noncomputable def Fp  (f:Fn):Option Bool:=(CW f.den).bind fun y1=>cond y1 (cond (DH ((f.ps.length:Nat):Int) 1) (some false) (cond (DH 64 ((f.ps.length:Nat):Int)) (some false) ((f.ps[0]?).bind fun x2=>cond (Bp x2.fr 0) ((GW f.ps.length (AL (fun i y x=>Ge  f i y ) (fun x=>()) (f.ps.drop 0) 0 ())).bind (GQ (fun (_:Unit)=>some true) (fun v=>some v))) (some false)))) (some false)
theorem G4   {f:Fn} {yR:Bool} (h:Fp  f=some yR):Pure P G 124 [.agg (Uh f)] (.zb yR):=by
 unfold Fp at h
 refine BF Hd.mixed Hd.Aa (Ay Tryz.func124 adQ ?_) (AW (L6.Dp f) rfl) rfl
 revert h
 refine Ah fun y1 hy1=>?_
 let o1:LP:=[An (FC hy1)]
 refine Ad (fun hv=>?_) fun hv=>?_
 subst hv
 refine Ad (fun hb1=>?_) fun hb1=>?_
 rintro ⟨⟩
 exact rT (o1++[pb hb1])
 refine Ad (fun hb2=>?_) fun hb2=>?_
 rintro ⟨⟩
 exact rT (o1++[pb hb1,pb hb2])
 refine Ah fun x2 hx2=>?_
 refine Ad (fun hb3=>?_) fun hb3=>?_
 refine DF (fun Q v=>EQ P Tryz.f124 0 Q (.zb v)) (fun i0 (_:Unit) (j0:List Value)=>fr 87 [(1,.ptr 0 0),(30,.sl .lost f.ps.length (rows GY f.ps)),(31,.zi ((f.ps.length:Nat):Int)),(32,.zi ((i0:Nat):Int))] [2,7,8,9,13,14,15,19,20,21,27,28,33,39,40,42,43,53,54,55,61,62,68,69,70,76,77,80,81,84,85] j0) (fun (_:Unit)=>⟨[(0,.cells (Uh f))],1,[],0⟩) (fun (_:Unit) (jx:List Value)=>fr 87 [] [2,7,8,9,13,14,15,19,20,21,27,28,33,39,40,42,43,53,54,55,61,62,68,69,70,76,77,80,81,84,85] jx) (fun (_:Unit)=>⟨[(0,.cells (Uh f))],1,[],0⟩) [bF,bT,bF,bF,bF,bF,bF,bF,bF,bF,bF,bF] (Dq [] 0 (sb aaa 116) [.code (sb aaa 15)] (Ag 300 (o1++[pb hb1,pb hb2,BT (QB .lost hx2),pn hb3])) (by kernel_rfl)) ?_ ?_ ?_ (fun v h=>by cases h;exact .outer .body)
 rintro i0 ⟨⟩ j0 hge hq
 exact B1 (Ag 300 [pb (IJ hge)]) (by kernel_rfl) (hq (js 31 j0 [(12,bF)]))
 rintro i0 e0 ⟨⟩ j0 r he0 hi0 mi0 k
 show Ge  f i0 e0 =some r→_
 unfold Ge
 let o2:LP:=[pb (Fk hi0),BT (QB .lost he0)]
 refine Ad (fun hb4=>?_) fun hb4=>?_
 rintro ⟨⟩
 exact Ap _ _ (Ag 300 (o2++[pb hb4])) (by kernel_rfl) (.Em k) .sc
 let o3:LP:=o2++[pb hb4]
 refine Ad (fun hb5=>?_) fun hb5=>?_
 refine Ah fun x3 hx3=>?_
 let o4:LP:=o3++[pb hb5,pk,BT (Z2 .lost hx3)]
 refine Ad (fun hb6=>?_) fun hb6=>?_
 rintro ⟨⟩
 exact Ap _ _ (Ag 300 (o4++[pb hb6])) (by kernel_rfl) (.Em k) .sc
 refine Ah fun z4 hz4=>?_
 let o5:LP:=o4++[pb hb6,CD (VU hz4 (.tmp 57) (.tmp 59))]
 refine Ad (fun hb7=>?_) fun hb7=>?_
 refine Ad (fun hb8=>?_) fun hb8=>?_
 rintro ⟨⟩
 exact Ap _ _ (Ag 300 (o5++[pn hb7,pk,pb hb8])) (by kernel_rfl) (.Em k) .sc
 refine Ad (fun hb9=>?_) fun hb9=>?_
 rintro ⟨⟩
 exact Ap _ _ (Ag 300 (o5++[pn hb7,pk,pb hb8,pk,pb hb9])) (by kernel_rfl) (.Em k) .sc
 refine Ad (fun hb10=>?_) fun hb10=>?_
 rintro ⟨⟩
 exact Ap _ _ (Ag 300 (o5++[pn hb7,pk,pb hb8,pk,pb hb9,pb hb10])) (by kernel_rfl) (.Em k) .sc
 refine Ad (fun hb11=>?_) fun hb11=>?_
 rintro ⟨⟩
 exact Ap _ _ (Ag 300 (o5++[pn hb7,pk,pb hb8,pk,pb hb9,pb hb10,pb hb11])) (by kernel_rfl) (.Em k) .sc
 rintro ⟨⟩
 exact Bt Hd.Aa [fq (Ch.Bk f.ps)] [bp (L6.pl f)] (Ag 300 (o5++[pn hb7,pk,pb hb8,pk,pb hb9,pb hb10,pb hb11,pi mi0])) (by kernel_rfl) (k (js 31 j0 [(12,bT),(13,bF),(14,bF),(15,bT),(16,bT),(17,bF),(18,bF),(19,bF),(20,bF),(21,bF),(22,bF),(23,bF),(24,bF),(25,bF),(26,bF),(27,bF),(28,bF),(29,bF),(30,bF)]))
 rintro ⟨⟩
 exact Ap _ _ (Ag 300 (o5++[pn hb7])) (by kernel_rfl) (.Em k) .sc
 refine Ah fun z5 hz5=>?_
 let o6:LP:=o3++[pb hb5,CD (VU hz5 (.tmp 57) (.tmp 59))]
 refine Ad (fun hb12=>?_) fun hb12=>?_
 refine Ad (fun hb13=>?_) fun hb13=>?_
 rintro ⟨⟩
 exact Ap _ _ (Ag 300 (o6++[pn hb12,pk,pb hb13])) (by kernel_rfl) (.Em k) .sc
 refine Ad (fun hb14=>?_) fun hb14=>?_
 rintro ⟨⟩
 exact Ap _ _ (Ag 300 (o6++[pn hb12,pk,pb hb13,pk,pb hb14])) (by kernel_rfl) (.Em k) .sc
 refine Ad (fun hb15=>?_) fun hb15=>?_
 rintro ⟨⟩
 exact Ap _ _ (Ag 300 (o6++[pn hb12,pk,pb hb13,pk,pb hb14,pb hb15])) (by kernel_rfl) (.Em k) .sc
 refine Ad (fun hb16=>?_) fun hb16=>?_
 rintro ⟨⟩
 exact Ap _ _ (Ag 300 (o6++[pn hb12,pk,pb hb13,pk,pb hb14,pb hb15,pb hb16])) (by kernel_rfl) (.Em k) .sc
 rintro ⟨⟩
 exact Bt Hd.Aa [fq (Ch.Bk f.ps)] [bp (L6.pl f)] (Ag 300 (o6++[pn hb12,pk,pb hb13,pk,pb hb14,pb hb15,pb hb16,pi mi0])) (by kernel_rfl) (k (js 31 j0 [(12,bT),(13,bF),(14,bF),(15,bF),(16,bF),(17,undef),(18,bF),(19,bF),(20,bF),(21,bF),(22,bF),(23,bF),(24,bF),(25,bF),(26,bF),(27,bF),(28,bF),(29,bF),(30,bF)]))
 rintro ⟨⟩
 exact Ap _ _ (Ag 300 (o6++[pn hb12])) (by kernel_rfl) (.Em k) .sc
 rintro ⟨⟩ jx_6
 rintro ⟨⟩
 exact Ap _ _ (BJ 300 []) (by kernel_rfl) .body .sc
 rintro ⟨⟩
 exact rT (o1++[pb hb1,pb hb2,BT (QB .lost hx2),pn hb3])
 subst hv
 rintro ⟨⟩
 exact rT o1
theorem A9 {c:Ck} {n:Nd} {depth:Int} {yR:Bool} {qc_nodesR:Int} (hS:Sound P G (.call 76 [.ptr 0 0,.agg (Bo n),.zi depth] ⟨[(0,.cells (He c))],1,[],0⟩ (.ret (.zb yR)) ⟨[(0,.cells [.zi qc_nodesR])],1,[],0⟩)) (u0:Nat) (hnb:([u0]:List Nat).Nodup:=by decide) (hnt:([]:List Nat).Nodup:=by decide):Cd.ok P G (.callU 76 [.ptr u0 0,.agg (Bo n),.zi depth] (.ret (.zb yR)) [(u0,.cells (He c))] [] [(u0,.cells [.zi qc_nodesR])] []) :=
 CS (M:=[.cells (He c)]) (M2:=[.cells [.zi qc_nodesR]]) (T:=[]) (T2:=[]) (k:=1) (j:=0) Hd.Aa _ _ _ _ hS rfl rfl rfl rfl rfl hnb hnt rfl rfl (.cons (.cells (.pl (Ni.pl c))) .nil) (.cons (.cells (.pl (AW rfl rfl))) .nil) (.cons (.ptr (by decide)) (.cons (.pl (Am.Dp n)) (.cons (.pl rfl) .nil))) (.pl rfl) (fun e he=>by simp only [List.mem_singleton] at he;subst he;exact (.arg (.here .ptr)))
theorem L7 {c:Ck} {n:Nd} {depth:Int} {yR:Bool} {qc_nodesR:Int} (hS:Sound P G (.call 123 [.ptr 0 0,.agg (Bo n),.zi depth] ⟨[(0,.cells (He c))],1,[],0⟩ (.ret (.zb yR)) ⟨[(0,.cells [.zi qc_nodesR])],1,[],0⟩)) (u0:Nat) (hnb:([u0]:List Nat).Nodup:=by decide) (hnt:([]:List Nat).Nodup:=by decide):Cd.ok P G (.callU 123 [.ptr u0 0,.agg (Bo n),.zi depth] (.ret (.zb yR)) [(u0,.cells (He c))] [] [(u0,.cells [.zi qc_nodesR])] []) :=
 CS (M:=[.cells (He c)]) (M2:=[.cells [.zi qc_nodesR]]) (T:=[]) (T2:=[]) (k:=1) (j:=0) Hd.Aa _ _ _ _ hS rfl rfl rfl rfl rfl hnb hnt rfl rfl (.cons (.cells (.pl (Ni.pl c))) .nil) (.cons (.cells (.pl (AW rfl rfl))) .nil) (.cons (.ptr (by decide)) (.cons (.pl (Am.Dp n)) (.cons (.pl rfl) .nil))) (.pl rfl) (fun e he=>by simp only [List.mem_singleton] at he;subst he;exact (.arg (.here .ptr)))
theorem IE {c:Ck} {n:Nd} {depth:Int} {yR:Bool} {qc_nodesR:Int} (hS:Sound P G (.call 163 [.ptr 0 0,.agg (Bo n),.zi depth] ⟨[(0,.cells (He c))],1,[],0⟩ (.ret (.zb yR)) ⟨[(0,.cells [.zi qc_nodesR])],1,[],0⟩)) (u0:Nat) (hnb:([u0]:List Nat).Nodup:=by decide) (hnt:([]:List Nat).Nodup:=by decide):Cd.ok P G (.callU 163 [.ptr u0 0,.agg (Bo n),.zi depth] (.ret (.zb yR)) [(u0,.cells (He c))] [] [(u0,.cells [.zi qc_nodesR])] []) :=
 CS (M:=[.cells (He c)]) (M2:=[.cells [.zi qc_nodesR]]) (T:=[]) (T2:=[]) (k:=1) (j:=0) Hd.Aa _ _ _ _ hS rfl rfl rfl rfl rfl hnb hnt rfl rfl (.cons (.cells (.pl (Ni.pl c))) .nil) (.cons (.cells (.pl (AW rfl rfl))) .nil) (.cons (.ptr (by decide)) (.cons (.pl (Am.Dp n)) (.cons (.pl rfl) .nil))) (.pl rfl) (fun e he=>by simp only [List.mem_singleton] at he;subst he;exact (.arg (.here .ptr)))
theorem HZ {c:Ck} {list:(List Nd)} {depth:Int} {yR:Bool} {qc_nodesR:Int} (hS:Sound P G (.call 79 [.ptr 0 0,.sl .lost list.length (Cg list),.zi depth,.fn (.func 76) [.ptr 0 0] []] ⟨[(0,.cells (He c))],1,[],0⟩ (.ret (.zb yR)) ⟨[(0,.cells [.zi qc_nodesR])],1,[],0⟩)) (u0:Nat) (hnb:([u0]:List Nat).Nodup:=by decide) (hnt:([]:List Nat).Nodup:=by decide):Cd.ok P G (.callU 79 [.ptr u0 0,.sl .lost list.length (Cg list),.zi depth,.fn (.func 76) [.ptr u0 0] []] (.ret (.zb yR)) [(u0,.cells (He c))] [] [(u0,.cells [.zi qc_nodesR])] []) :=
 CS (M:=[.cells (He c)]) (M2:=[.cells [.zi qc_nodesR]]) (T:=[]) (T2:=[]) (k:=1) (j:=0) Hd.Aa _ _ _ _ hS rfl rfl rfl rfl rfl hnb hnt rfl rfl (.cons (.cells (.pl (Ni.pl c))) .nil) (.cons (.cells (.pl (AW rfl rfl))) .nil) (.cons (.ptr (by decide)) (.cons (.pl (Am.Bk list)) (.cons (.pl rfl) (.cons (.fn (.cons (.ptr (by decide)) .nil) (.pl rfl)) .nil)))) (.pl rfl) (fun e he=>by simp only [List.mem_singleton] at he;subst he;exact (.arg (.here .ptr)))
noncomputable def B76:Code:=AY Tryz.f76
theorem b76:Tryz.f76.body=some B76:=by kernel_rfl
noncomputable def CN (As:Ck→Nd→Int→Option (Bool×Int)) (AQ:Ck→Nd→Int→Option (Bool×Int)) (AU:Ck→Nd→Int→Option (Bool×Int)) (AH:Ck→(List Nd)→Int→Option (Bool×Int)) (c:Ck) (n:Nd) (depth:Int):Option (Bool×Int):=(BI c n depth).bind fun (y1a,y1b)=>cond y1a (cond (Bp n.kind 11) ((DP n.unit).bind fun y2=>cond y2 (cond (DH n.n 0) (some (false,y1b)) (cond (DH 999999999999 n.n) (some (false,y1b)) (cond (BC n.unit.data.toList Ak.data.toList) (cond (DH 1 n.n) (some (false,y1b)) (cond (Bp ((n.kids.length:Nat):Int) 0) ((Bx n (⟨0,ByteArray.empty,n.unit,n.n,0,0,0,(⟨0,[]⟩:Fn),[],0⟩:Nd)).bind fun y3=>some (y3,y1b)) (some (false,y1b)))) (cond (Bp ((n.kids.length:Nat):Int) 0) ((Bx n (⟨0,ByteArray.empty,n.unit,n.n,0,0,0,(⟨0,[]⟩:Fn),[],0⟩:Nd)).bind fun y4=>some (y4,y1b)) (some (false,y1b)))))) (some (false,y1b))) (cond (Bp n.kind 12) ((Cu n.name).bind fun y5=>cond y5 (cond (Bp ((n.kids.length:Nat):Int) 0) ((Bx n (⟨0,n.name,ByteArray.empty,0,0,0,0,(⟨0,[]⟩:Fn),[],0⟩:Nd)).bind fun y6=>some (y6,y1b)) (some (false,y1b))) (some (false,y1b))) (cond (Bp n.kind 13) ((CW n.n).bind fun y7=>cond y7 (cond (Bp ((n.kids.length:Nat):Int) 0) ((Bx n (⟨0,ByteArray.empty,ByteArray.empty,n.n,0,0,0,(⟨0,[]⟩:Fn),[],0⟩:Nd)).bind fun y8=>some (y8,y1b)) (some (false,y1b))) (some (false,y1b))) (cond (Bp n.kind 14) ((ET n.name).bind fun y9=>cond y9 (cond (Bp ((n.kids.length:Nat):Int) 0) ((Bx n (⟨0,n.name,ByteArray.empty,0,0,0,0,(⟨0,[]⟩:Fn),[],0⟩:Nd)).bind fun y10=>some (y10,y1b)) (some (false,y1b))) (some (false,y1b))) (cond (Bp n.kind 15) (cond (Bp ((n.kids.length:Nat):Int) 1) ((Bx n (⟨0,ByteArray.empty,ByteArray.empty,0,0,0,0,(⟨0,[]⟩:Fn),[],0⟩:Nd)).bind fun y11=>cond y11 ((n.kids[0]?).bind fun x12=>(As (⟨y1b⟩:Ck) x12 (BW depth 1)).bind fun (y13a,y13b)=>some (y13a,y13b)) (some (false,y1b))) (some (false,y1b))) (cond (Bp n.kind 16) ((Bx n (⟨0,n.name,ByteArray.empty,0,0,0,0,(⟨0,[]⟩:Fn),[],0⟩:Nd)).bind fun y14=>cond y14 ((AQ (⟨y1b⟩:Ck) n depth).bind fun (y15a,y15b)=>some (y15a,y15b)) (some (false,y1b))) (cond (Bp n.kind 17) (cond (BC n.name.data.toList Jt.data.toList) ((Bx n (⟨0,n.name,ByteArray.empty,0,0,0,0,(⟨0,[]⟩:Fn),[],0⟩:Nd)).bind fun y16=>cond y16 (cond (Kt 2 ((n.kids.length:Nat):Int)) ((AH (⟨y1b⟩:Ck) n.kids (BW depth 1)).bind fun (y17a,y17b)=>some (y17a,y17b)) (some (false,y1b))) (some (false,y1b))) (cond (BC n.name.data.toList Ec.data.toList) ((Bx n (⟨0,n.name,ByteArray.empty,0,0,0,0,(⟨0,[]⟩:Fn),[],0⟩:Nd)).bind fun y18=>cond y18 (cond (Kt 2 ((n.kids.length:Nat):Int)) ((AH (⟨y1b⟩:Ck) n.kids (BW depth 1)).bind fun (y19a,y19b)=>some (y19a,y19b)) (some (false,y1b))) (some (false,y1b))) (some (false,y1b)))) (cond (Bp n.kind 18) ((Bx n (⟨0,ByteArray.empty,ByteArray.empty,0,0,0,0,n.tab,[],0⟩:Nd)).bind fun y20=>cond y20 ((Fp n.tab).bind fun y21=>cond y21 (cond (Bp ((n.kids.length:Nat):Int) 1) ((n.kids[0]?).bind fun x22=>(As (⟨y1b⟩:Ck) x22 (BW depth 1)).bind fun (y23a,y23b)=>some (y23a,y23b)) (some (false,y1b))) (some (false,y1b))) (some (false,y1b))) (some (false,y1b)))))))))) (some (false,y1b))
theorem LV (As:Ck→Nd→Int→Option (Bool×Int)) (AQ:Ck→Nd→Int→Option (Bool×Int)) (AU:Ck→Nd→Int→Option (Bool×Int)) (AH:Ck→(List Nd)→Int→Option (Bool×Int)) (A4:∀ {c:Ck} {n:Nd} {depth:Int} {yR:Bool} {qc_nodesR:Int},As c n depth=some (yR,qc_nodesR)→Sound P G (.call 76 [.ptr 0 0,.agg (Bo n),.zi depth] ⟨[(0,.cells (He c))],1,[],0⟩ (.ret (.zb yR)) ⟨[(0,.cells [.zi qc_nodesR])],1,[],0⟩)) (Ei:∀ {c:Ck} {n:Nd} {depth:Int} {yR:Bool} {qc_nodesR:Int},AQ c n depth=some (yR,qc_nodesR)→Sound P G (.call 123 [.ptr 0 0,.agg (Bo n),.zi depth] ⟨[(0,.cells (He c))],1,[],0⟩ (.ret (.zb yR)) ⟨[(0,.cells [.zi qc_nodesR])],1,[],0⟩)) (Ek:∀ {c:Ck} {n:Nd} {depth:Int} {yR:Bool} {qc_nodesR:Int},AU c n depth=some (yR,qc_nodesR)→Sound P G (.call 163 [.ptr 0 0,.agg (Bo n),.zi depth] ⟨[(0,.cells (He c))],1,[],0⟩ (.ret (.zb yR)) ⟨[(0,.cells [.zi qc_nodesR])],1,[],0⟩)) (C2:∀ {c:Ck} {list:(List Nd)} {depth:Int} {yR:Bool} {qc_nodesR:Int},AH c list depth=some (yR,qc_nodesR)→Sound P G (.call 79 [.ptr 0 0,.sl .lost list.length (Cg list),.zi depth,.fn (.func 76) [.ptr 0 0] []] ⟨[(0,.cells (He c))],1,[],0⟩ (.ret (.zb yR)) ⟨[(0,.cells [.zi qc_nodesR])],1,[],0⟩)) {c:Ck} {n:Nd} {depth:Int} {yR:Bool} {qc_nodesR:Int} (h:CN As AQ AU AH c n depth=some (yR,qc_nodesR)):Sound P G (.call 76 [.ptr 0 0,.agg (Bo n),.zi depth] ⟨[(0,.cells (He c))],1,[],0⟩ (.ret (.zb yR)) ⟨[(0,.cells [.zi qc_nodesR])],1,[],0⟩):=by
 unfold CN at h
 refine CT Hd.mixed (Ay Tryz.func76 b76 ?_)
 revert h
 refine Ah ?_
 rintro ⟨y1a,y1b⟩ hy1
 dsimp only
 let o1:LP:=[AG (D4 (Df hy1) 0)]
 refine Ad (fun hv=>?_) fun hv=>?_
 subst hv
 refine Ad (fun hb1=>?_) fun hb1=>?_
 refine Ah fun y2 hy2=>?_
 let o2:LP:=o1++[pb hb1,An (Eo hy2)]
 refine Ad (fun hv=>?_) fun hv=>?_
 subst hv
 refine Ad (fun hb2=>?_) fun hb2=>?_
 rintro ⟨⟩
 exact Ao Hd.Aa _ _ [] [none] (Ag 300 (o2++[pb hb2])) (by kernel_rfl) .body
 refine Ad (fun hb3=>?_) fun hb3=>?_
 rintro ⟨⟩
 exact Ao Hd.Aa _ _ [] [none] (Ag 300 (o2++[pb hb2,pb hb3])) (by kernel_rfl) .body
 refine Ad (fun hb4=>?_) fun hb4=>?_
 refine Ad (fun hb5=>?_) fun hb5=>?_
 rintro ⟨⟩
 exact Ao Hd.Aa _ _ [] [none] (Ag 300 (o2++[pb hb2,pb hb3,pb hb4,pb hb5])) (by kernel_rfl) .body
 refine Ad (fun hb6=>?_) fun hb6=>?_
 refine Ah fun y3 hy3=>?_
 rintro ⟨⟩
 exact Ao Hd.Aa _ _ [] [none] (Ag 300 (o2++[pb hb2,pb hb3,pb hb4,pb hb5,pb hb6,Fl (.r (.g (.r (.r (.r (.r (.r (.r (.r (.r (.z (.z (.r .nil))))))))))) .nil)) (BD hy3)])) (by kernel_rfl) .body
 rintro ⟨⟩
 exact Ao Hd.Aa _ _ [] [none] (Ag 300 (o2++[pb hb2,pb hb3,pb hb4,pb hb5,pb hb6])) (by kernel_rfl) .body
 refine Ad (fun hb7=>?_) fun hb7=>?_
 refine Ah fun y4 hy4=>?_
 rintro ⟨⟩
 exact Ao Hd.Aa _ _ [] [none] (Ag 300 (o2++[pb hb2,pb hb3,pb hb4,pb hb7,Fl (.r (.g (.r (.r (.r (.r (.r (.r (.r (.r (.z (.z (.r .nil))))))))))) .nil)) (BD hy4)])) (by kernel_rfl) .body
 rintro ⟨⟩
 exact Ao Hd.Aa _ _ [] [none] (Ag 300 (o2++[pb hb2,pb hb3,pb hb4,pb hb7])) (by kernel_rfl) .body
 subst hv
 rintro ⟨⟩
 exact Ao Hd.Aa _ _ [] [none] (Ag 300 o2) (by kernel_rfl) .body
 let o3:LP:=o1++[pb hb1]
 refine Ad (fun hb8=>?_) fun hb8=>?_
 refine Ah fun y5 hy5=>?_
 let o4:LP:=o3++[pb hb8,An (FZ hy5)]
 refine Ad (fun hv=>?_) fun hv=>?_
 subst hv
 refine Ad (fun hb9=>?_) fun hb9=>?_
 refine Ah fun y6 hy6=>?_
 rintro ⟨⟩
 exact Ao Hd.Aa _ _ [] [none] (Ag 300 (o4++[pb hb9,Fl (.r (.g (.r (.r (.r (.r (.r (.r (.r (.r (.z (.z (.r .nil))))))))))) .nil)) (BD hy6)])) (by kernel_rfl) .body
 rintro ⟨⟩
 exact Ao Hd.Aa _ _ [] [none] (Ag 300 (o4++[pb hb9])) (by kernel_rfl) .body
 subst hv
 rintro ⟨⟩
 exact Ao Hd.Aa _ _ [] [none] (Ag 300 o4) (by kernel_rfl) .body
 let o5:LP:=o3++[pb hb8]
 refine Ad (fun hb10=>?_) fun hb10=>?_
 refine Ah fun y7 hy7=>?_
 let o6:LP:=o5++[pb hb10,An (FC hy7)]
 refine Ad (fun hv=>?_) fun hv=>?_
 subst hv
 refine Ad (fun hb11=>?_) fun hb11=>?_
 refine Ah fun y8 hy8=>?_
 rintro ⟨⟩
 exact Ao Hd.Aa _ _ [] [none] (Ag 300 (o6++[pb hb11,Fl (.r (.g (.r (.r (.r (.r (.r (.r (.r (.r (.z (.z (.r .nil))))))))))) .nil)) (BD hy8)])) (by kernel_rfl) .body
 rintro ⟨⟩
 exact Ao Hd.Aa _ _ [] [none] (Ag 300 (o6++[pb hb11])) (by kernel_rfl) .body
 subst hv
 rintro ⟨⟩
 exact Ao Hd.Aa _ _ [] [none] (Ag 300 o6) (by kernel_rfl) .body
 let o7:LP:=o5++[pb hb10]
 refine Ad (fun hb12=>?_) fun hb12=>?_
 refine Ah fun y9 hy9=>?_
 let o8:LP:=o7++[pb hb12,An (MZ hy9)]
 refine Ad (fun hv=>?_) fun hv=>?_
 subst hv
 refine Ad (fun hb13=>?_) fun hb13=>?_
 refine Ah fun y10 hy10=>?_
 rintro ⟨⟩
 exact Ao Hd.Aa _ _ [] [none] (Ag 300 (o8++[pb hb13,Fl (.r (.g (.r (.r (.r (.r (.r (.r (.r (.r (.z (.z (.r .nil))))))))))) .nil)) (BD hy10)])) (by kernel_rfl) .body
 rintro ⟨⟩
 exact Ao Hd.Aa _ _ [] [none] (Ag 300 (o8++[pb hb13])) (by kernel_rfl) .body
 subst hv
 rintro ⟨⟩
 exact Ao Hd.Aa _ _ [] [none] (Ag 300 o8) (by kernel_rfl) .body
 let o9:LP:=o7++[pb hb12]
 refine Ad (fun hb14=>?_) fun hb14=>?_
 refine Ad (fun hb15=>?_) fun hb15=>?_
 refine Ah fun y11 hy11=>?_
 let o10:LP:=o9++[pb hb14,pb hb15,Fl (.r (.g (.r (.r (.r (.r (.r (.r (.r (.r (.z (.z (.r .nil))))))))))) .nil)) (BD hy11)]
 refine Ad (fun hv=>?_) fun hv=>?_
 subst hv
 refine Ah fun x12 hx12=>?_
 refine Ah ?_
 rintro ⟨y13a,y13b⟩ hy13
 dsimp only
 rintro ⟨⟩
 exact Ao Hd.Aa _ _ [] [none] (Ag 300 (o10++[BT (BQ .lost hx12),pk,AG (A9 (A4 hy13) 0)])) (by kernel_rfl) .body
 subst hv
 rintro ⟨⟩
 exact Ao Hd.Aa _ _ [] [none] (Ag 300 o10) (by kernel_rfl) .body
 rintro ⟨⟩
 exact Ao Hd.Aa _ _ [] [none] (Ag 300 (o9++[pb hb14,pb hb15])) (by kernel_rfl) .body
 let o11:LP:=o9++[pb hb14]
 refine Ad (fun hb16=>?_) fun hb16=>?_
 refine Ah fun y14 hy14=>?_
 let o12:LP:=o11++[pb hb16,Fl (.r (.g (.r (.r (.r (.r (.r (.r (.r (.r (.z (.z (.r .nil))))))))))) .nil)) (BD hy14)]
 refine Ad (fun hv=>?_) fun hv=>?_
 subst hv
 refine Ah ?_
 rintro ⟨y15a,y15b⟩ hy15
 dsimp only
 rintro ⟨⟩
 exact Ao Hd.Aa _ _ [] [none] (Ag 300 (o12++[AG (L7 (Ei hy15) 0)])) (by kernel_rfl) .body
 subst hv
 rintro ⟨⟩
 exact Ao Hd.Aa _ _ [] [none] (Ag 300 o12) (by kernel_rfl) .body
 let o13:LP:=o11++[pb hb16]
 refine Ad (fun hb17=>?_) fun hb17=>?_
 refine Ad (fun hb18=>?_) fun hb18=>?_
 refine Ah fun y16 hy16=>?_
 let o14:LP:=o13++[pb hb17,pb hb18,Fl (.r (.g (.r (.r (.r (.r (.r (.r (.r (.r (.z (.z (.r .nil))))))))))) .nil)) (BD hy16)]
 refine Ad (fun hv=>?_) fun hv=>?_
 subst hv
 refine Ad (fun hb19=>?_) fun hb19=>?_
 refine Ah ?_
 rintro ⟨y17a,y17b⟩ hy17
 dsimp only
 rintro ⟨⟩
 exact Ao Hd.Aa _ _ [] [none] (Ag 300 (o14++[pb hb19,pk,AG (HZ (C2 hy17) 0)])) (by kernel_rfl) .body
 rintro ⟨⟩
 exact Ao Hd.Aa _ _ [] [none] (Ag 300 (o14++[pb hb19])) (by kernel_rfl) .body
 subst hv
 rintro ⟨⟩
 exact Ao Hd.Aa _ _ [] [none] (Ag 300 o14) (by kernel_rfl) .body
 refine Ad (fun hb20=>?_) fun hb20=>?_
 refine Ah fun y18 hy18=>?_
 let o15:LP:=o13++[pb hb17,pb hb18,pb hb20,Fl (.r (.g (.r (.r (.r (.r (.r (.r (.r (.r (.z (.z (.r .nil))))))))))) .nil)) (BD hy18)]
 refine Ad (fun hv=>?_) fun hv=>?_
 subst hv
 refine Ad (fun hb21=>?_) fun hb21=>?_
 refine Ah ?_
 rintro ⟨y19a,y19b⟩ hy19
 dsimp only
 rintro ⟨⟩
 exact Ao Hd.Aa _ _ [] [none] (Ag 300 (o15++[pb hb21,pk,AG (HZ (C2 hy19) 0)])) (by kernel_rfl) .body
 rintro ⟨⟩
 exact Ao Hd.Aa _ _ [] [none] (Ag 300 (o15++[pb hb21])) (by kernel_rfl) .body
 subst hv
 rintro ⟨⟩
 exact Ao Hd.Aa _ _ [] [none] (Ag 300 o15) (by kernel_rfl) .body
 rintro ⟨⟩
 exact Ao Hd.Aa _ _ [] [none] (Ag 300 (o13++[pb hb17,pb hb18,pb hb20])) (by kernel_rfl) .body
 refine Ad (fun hb22=>?_) fun hb22=>?_
 refine Ah fun y20 hy20=>?_
 let o16:LP:=o13++[pb hb17,pb hb22,Fl (.r (.g (.r (.r (.r (.r (.r (.r (.r (.r (.r (.z (.r .nil))))))))))) .nil)) (BD hy20)]
 refine Ad (fun hv=>?_) fun hv=>?_
 subst hv
 refine Ah fun y21 hy21=>?_
 refine Ad (fun hv=>?_) fun hv=>?_
 subst hv
 refine Ad (fun hb23=>?_) fun hb23=>?_
 refine Ah fun x22 hx22=>?_
 refine Ah ?_
 rintro ⟨y23a,y23b⟩ hy23
 dsimp only
 rintro ⟨⟩
 exact Ao Hd.Aa _ _ [] [none] (Ag 300 (o16++[An (G4 hy21),pb hb23,BT (BQ .lost hx22),pk,AG (A9 (A4 hy23) 0)])) (by kernel_rfl) .body
 rintro ⟨⟩
 exact Ao Hd.Aa _ _ [] [none] (Ag 300 (o16++[An (G4 hy21),pb hb23])) (by kernel_rfl) .body
 subst hv
 rintro ⟨⟩
 exact Ao Hd.Aa _ _ [] [none] (Ag 300 (o16++[An (G4 hy21)])) (by kernel_rfl) .body
 subst hv
 rintro ⟨⟩
 exact Ao Hd.Aa _ _ [] [none] (Ag 300 o16) (by kernel_rfl) .body
 rintro ⟨⟩
 exact Ao Hd.Aa _ _ [] [none] (Ag 300 (o13++[pb hb17,pb hb22])) (by kernel_rfl) .body
 subst hv
 rintro ⟨⟩
 exact Ao Hd.Aa _ _ [] [none] (Ag 300 o1) (by kernel_rfl) .body
noncomputable def aeR:Code:=AY Tryz.f123
theorem ael:Tryz.f123.body=some aeR:=by kernel_rfl
noncomputable def Cn (As:Ck→Nd→Int→Option (Bool×Int)) (AQ:Ck→Nd→Int→Option (Bool×Int)) (AU:Ck→Nd→Int→Option (Bool×Int)) (AH:Ck→(List Nd)→Int→Option (Bool×Int)) (c:Ck) (n:Nd) (depth:Int):Option (Bool×Int):=cond (Bp ((n.kids.length:Nat):Int) 2) ((n.kids[0]?).bind fun x1=>(As c x1 (BW depth 1)).bind fun (y2a,y2b)=>cond y2a (cond (BC n.name.data.toList Kf.data.toList) ((n.kids[1]?).bind fun x3=>(AU (⟨y2b⟩:Ck) x3 (BW depth 1)).bind fun (y4a,y4b)=>some (y4a,y4b)) (cond (BC n.name.data.toList Um.data.toList) ((n.kids[1]?).bind fun x5=>(As (⟨y2b⟩:Ck) x5 (BW depth 1)).bind fun (y6a,y6b)=>some (y6a,y6b)) (cond (BC n.name.data.toList IP.data.toList) ((n.kids[1]?).bind fun x7=>(As (⟨y2b⟩:Ck) x7 (BW depth 1)).bind fun (y8a,y8b)=>some (y8a,y8b)) (cond (BC n.name.data.toList I2.data.toList) ((n.kids[1]?).bind fun x9=>(As (⟨y2b⟩:Ck) x9 (BW depth 1)).bind fun (y10a,y10b)=>some (y10a,y10b)) (cond (BC n.name.data.toList Iw.data.toList) ((n.kids[1]?).bind fun x11=>(As (⟨y2b⟩:Ck) x11 (BW depth 1)).bind fun (y12a,y12b)=>some (y12a,y12b)) (cond (BC n.name.data.toList PK.data.toList) ((n.kids[1]?).bind fun x13=>(As (⟨y2b⟩:Ck) x13 (BW depth 1)).bind fun (y14a,y14b)=>some (y14a,y14b)) (cond (BC n.name.data.toList Ix.data.toList) ((n.kids[1]?).bind fun x15=>(As (⟨y2b⟩:Ck) x15 (BW depth 1)).bind fun (y16a,y16b)=>some (y16a,y16b)) (cond (BC n.name.data.toList K5.data.toList) ((n.kids[1]?).bind fun x17=>(As (⟨y2b⟩:Ck) x17 (BW depth 1)).bind fun (y18a,y18b)=>some (y18a,y18b)) (cond (BC n.name.data.toList Pe.data.toList) ((n.kids[1]?).bind fun x19=>(As (⟨y2b⟩:Ck) x19 (BW depth 1)).bind fun (y20a,y20b)=>some (y20a,y20b)) (cond (BC n.name.data.toList PY.data.toList) ((n.kids[1]?).bind fun x21=>(As (⟨y2b⟩:Ck) x21 (BW depth 1)).bind fun (y22a,y22b)=>some (y22a,y22b)) (cond (BC n.name.data.toList U0.data.toList) ((n.kids[1]?).bind fun x23=>(As (⟨y2b⟩:Ck) x23 (BW depth 1)).bind fun (y24a,y24b)=>some (y24a,y24b)) (some (false,y2b))))))))))))) (some (false,y2b))) (some (false,c.nodes))
theorem Lk (As:Ck→Nd→Int→Option (Bool×Int)) (AQ:Ck→Nd→Int→Option (Bool×Int)) (AU:Ck→Nd→Int→Option (Bool×Int)) (AH:Ck→(List Nd)→Int→Option (Bool×Int)) (A4:∀ {c:Ck} {n:Nd} {depth:Int} {yR:Bool} {qc_nodesR:Int},As c n depth=some (yR,qc_nodesR)→Sound P G (.call 76 [.ptr 0 0,.agg (Bo n),.zi depth] ⟨[(0,.cells (He c))],1,[],0⟩ (.ret (.zb yR)) ⟨[(0,.cells [.zi qc_nodesR])],1,[],0⟩)) (Ei:∀ {c:Ck} {n:Nd} {depth:Int} {yR:Bool} {qc_nodesR:Int},AQ c n depth=some (yR,qc_nodesR)→Sound P G (.call 123 [.ptr 0 0,.agg (Bo n),.zi depth] ⟨[(0,.cells (He c))],1,[],0⟩ (.ret (.zb yR)) ⟨[(0,.cells [.zi qc_nodesR])],1,[],0⟩)) (Ek:∀ {c:Ck} {n:Nd} {depth:Int} {yR:Bool} {qc_nodesR:Int},AU c n depth=some (yR,qc_nodesR)→Sound P G (.call 163 [.ptr 0 0,.agg (Bo n),.zi depth] ⟨[(0,.cells (He c))],1,[],0⟩ (.ret (.zb yR)) ⟨[(0,.cells [.zi qc_nodesR])],1,[],0⟩)) (C2:∀ {c:Ck} {list:(List Nd)} {depth:Int} {yR:Bool} {qc_nodesR:Int},AH c list depth=some (yR,qc_nodesR)→Sound P G (.call 79 [.ptr 0 0,.sl .lost list.length (Cg list),.zi depth,.fn (.func 76) [.ptr 0 0] []] ⟨[(0,.cells (He c))],1,[],0⟩ (.ret (.zb yR)) ⟨[(0,.cells [.zi qc_nodesR])],1,[],0⟩)) {c:Ck} {n:Nd} {depth:Int} {yR:Bool} {qc_nodesR:Int} (h:Cn As AQ AU AH c n depth=some (yR,qc_nodesR)):Sound P G (.call 123 [.ptr 0 0,.agg (Bo n),.zi depth] ⟨[(0,.cells (He c))],1,[],0⟩ (.ret (.zb yR)) ⟨[(0,.cells [.zi qc_nodesR])],1,[],0⟩):=by
 unfold Cn at h
 refine CT Hd.mixed (Ay Tryz.func123 ael ?_)
 revert h
 refine Ad (fun hb1=>?_) fun hb1=>?_
 refine Ah fun x1 hx1=>?_
 refine Ah ?_
 rintro ⟨y2a,y2b⟩ hy2
 dsimp only
 let o1:LP:=[pn hb1,BT (BQ .lost hx1),pk,AG (A9 (A4 hy2) 0)]
 refine Ad (fun hv=>?_) fun hv=>?_
 subst hv
 refine Ad (fun hb2=>?_) fun hb2=>?_
 refine Ah fun x3 hx3=>?_
 refine Ah ?_
 rintro ⟨y4a,y4b⟩ hy4
 dsimp only
 rintro ⟨⟩
 exact Ao Hd.Aa _ _ [] [none] (Ag 300 (o1++[pb hb2,BT (BQ .lost hx3),pk,AG (IE (Ek hy4) 0)])) (by kernel_rfl) .body
 let o2:LP:=o1++[pb hb2]
 refine Ad (fun hb3=>?_) fun hb3=>?_
 refine Ah fun x5 hx5=>?_
 refine Ah ?_
 rintro ⟨y6a,y6b⟩ hy6
 dsimp only
 rintro ⟨⟩
 exact Ao Hd.Aa _ _ [] [none] (Ag 300 (o2++[pb hb3,BT (BQ .lost hx5),pk,AG (A9 (A4 hy6) 0)])) (by kernel_rfl) .body
 refine Ad (fun hb4=>?_) fun hb4=>?_
 refine Ah fun x7 hx7=>?_
 refine Ah ?_
 rintro ⟨y8a,y8b⟩ hy8
 dsimp only
 rintro ⟨⟩
 exact Ao Hd.Aa _ _ [] [none] (Ag 300 (o2++[pb hb3,pb hb4,BT (BQ .lost hx7),pk,AG (A9 (A4 hy8) 0)])) (by kernel_rfl) .body
 let o3:LP:=o2++[pb hb3,pb hb4]
 refine Ad (fun hb5=>?_) fun hb5=>?_
 refine Ah fun x9 hx9=>?_
 refine Ah ?_
 rintro ⟨y10a,y10b⟩ hy10
 dsimp only
 rintro ⟨⟩
 exact Ao Hd.Aa _ _ [] [none] (Ag 300 (o3++[pb hb5,BT (BQ .lost hx9),pk,AG (A9 (A4 hy10) 0)])) (by kernel_rfl) .body
 refine Ad (fun hb6=>?_) fun hb6=>?_
 refine Ah fun x11 hx11=>?_
 refine Ah ?_
 rintro ⟨y12a,y12b⟩ hy12
 dsimp only
 rintro ⟨⟩
 exact Ao Hd.Aa _ _ [] [none] (Ag 300 (o3++[pb hb5,pb hb6,BT (BQ .lost hx11),pk,AG (A9 (A4 hy12) 0)])) (by kernel_rfl) .body
 let o4:LP:=o3++[pb hb5,pb hb6]
 refine Ad (fun hb7=>?_) fun hb7=>?_
 refine Ah fun x13 hx13=>?_
 refine Ah ?_
 rintro ⟨y14a,y14b⟩ hy14
 dsimp only
 rintro ⟨⟩
 exact Ao Hd.Aa _ _ [] [none] (Ag 300 (o4++[pb hb7,BT (BQ .lost hx13),pk,AG (A9 (A4 hy14) 0)])) (by kernel_rfl) .body
 refine Ad (fun hb8=>?_) fun hb8=>?_
 refine Ah fun x15 hx15=>?_
 refine Ah ?_
 rintro ⟨y16a,y16b⟩ hy16
 dsimp only
 rintro ⟨⟩
 exact Ao Hd.Aa _ _ [] [none] (Ag 300 (o4++[pb hb7,pb hb8,BT (BQ .lost hx15),pk,AG (A9 (A4 hy16) 0)])) (by kernel_rfl) .body
 refine Ad (fun hb9=>?_) fun hb9=>?_
 refine Ah fun x17 hx17=>?_
 refine Ah ?_
 rintro ⟨y18a,y18b⟩ hy18
 dsimp only
 rintro ⟨⟩
 exact Ao Hd.Aa _ _ [] [none] (Ag 300 (o4++[pb hb7,pb hb8,pb hb9,BT (BQ .lost hx17),pk,AG (A9 (A4 hy18) 0)])) (by kernel_rfl) .body
 refine Ad (fun hb10=>?_) fun hb10=>?_
 refine Ah fun x19 hx19=>?_
 refine Ah ?_
 rintro ⟨y20a,y20b⟩ hy20
 dsimp only
 rintro ⟨⟩
 exact Ao Hd.Aa _ _ [] [none] (Ag 300 (o4++[pb hb7,pb hb8,pb hb9,pb hb10,BT (BQ .lost hx19),pk,AG (A9 (A4 hy20) 0)])) (by kernel_rfl) .body
 refine Ad (fun hb11=>?_) fun hb11=>?_
 refine Ah fun x21 hx21=>?_
 refine Ah ?_
 rintro ⟨y22a,y22b⟩ hy22
 dsimp only
 rintro ⟨⟩
 exact Ao Hd.Aa _ _ [] [none] (Ag 300 (o4++[pb hb7,pb hb8,pb hb9,pb hb10,pb hb11,BT (BQ .lost hx21),pk,AG (A9 (A4 hy22) 0)])) (by kernel_rfl) .body
 refine Ad (fun hb12=>?_) fun hb12=>?_
 refine Ah fun x23 hx23=>?_
 refine Ah ?_
 rintro ⟨y24a,y24b⟩ hy24
 dsimp only
 rintro ⟨⟩
 exact Ao Hd.Aa _ _ [] [none] (Ag 300 (o4++[pb hb7,pb hb8,pb hb9,pb hb10,pb hb11,pb hb12,BT (BQ .lost hx23),pk,AG (A9 (A4 hy24) 0)])) (by kernel_rfl) .body
 rintro ⟨⟩
 exact Ao Hd.Aa _ _ [] [none] (Ag 300 (o4++[pb hb7,pb hb8,pb hb9,pb hb10,pb hb11,pb hb12])) (by kernel_rfl) .body
 subst hv
 rintro ⟨⟩
 exact Ao Hd.Aa _ _ [] [none] (Ag 300 o1) (by kernel_rfl) .body
 rintro ⟨⟩
 exact Ao Hd.Aa _ _ [] [bp (Ni.pl c)] (Ag 300 [pn hb1]) (by kernel_rfl) .body
noncomputable def aeG:Code:=AY Tryz.f163
theorem adx:Tryz.f163.body=some aeG:=by kernel_rfl
noncomputable def Cs (As:Ck→Nd→Int→Option (Bool×Int)) (AQ:Ck→Nd→Int→Option (Bool×Int)) (AU:Ck→Nd→Int→Option (Bool×Int)) (AH:Ck→(List Nd)→Int→Option (Bool×Int)) (c:Ck) (n:Nd) (depth:Int):Option (Bool×Int):=(As c n depth).bind fun (y1a,y1b)=>cond y1a (cond (Bp n.kind 11) (cond (BC n.unit.data.toList AF.data.toList) ((CW n.n).bind fun y2=>some (y2,y1b)) (some (false,y1b))) (some (false,y1b))) (some (false,y1b))
theorem K6 (As:Ck→Nd→Int→Option (Bool×Int)) (AQ:Ck→Nd→Int→Option (Bool×Int)) (AU:Ck→Nd→Int→Option (Bool×Int)) (AH:Ck→(List Nd)→Int→Option (Bool×Int)) (A4:∀ {c:Ck} {n:Nd} {depth:Int} {yR:Bool} {qc_nodesR:Int},As c n depth=some (yR,qc_nodesR)→Sound P G (.call 76 [.ptr 0 0,.agg (Bo n),.zi depth] ⟨[(0,.cells (He c))],1,[],0⟩ (.ret (.zb yR)) ⟨[(0,.cells [.zi qc_nodesR])],1,[],0⟩)) (Ei:∀ {c:Ck} {n:Nd} {depth:Int} {yR:Bool} {qc_nodesR:Int},AQ c n depth=some (yR,qc_nodesR)→Sound P G (.call 123 [.ptr 0 0,.agg (Bo n),.zi depth] ⟨[(0,.cells (He c))],1,[],0⟩ (.ret (.zb yR)) ⟨[(0,.cells [.zi qc_nodesR])],1,[],0⟩)) (Ek:∀ {c:Ck} {n:Nd} {depth:Int} {yR:Bool} {qc_nodesR:Int},AU c n depth=some (yR,qc_nodesR)→Sound P G (.call 163 [.ptr 0 0,.agg (Bo n),.zi depth] ⟨[(0,.cells (He c))],1,[],0⟩ (.ret (.zb yR)) ⟨[(0,.cells [.zi qc_nodesR])],1,[],0⟩)) (C2:∀ {c:Ck} {list:(List Nd)} {depth:Int} {yR:Bool} {qc_nodesR:Int},AH c list depth=some (yR,qc_nodesR)→Sound P G (.call 79 [.ptr 0 0,.sl .lost list.length (Cg list),.zi depth,.fn (.func 76) [.ptr 0 0] []] ⟨[(0,.cells (He c))],1,[],0⟩ (.ret (.zb yR)) ⟨[(0,.cells [.zi qc_nodesR])],1,[],0⟩)) {c:Ck} {n:Nd} {depth:Int} {yR:Bool} {qc_nodesR:Int} (h:Cs As AQ AU AH c n depth=some (yR,qc_nodesR)):Sound P G (.call 163 [.ptr 0 0,.agg (Bo n),.zi depth] ⟨[(0,.cells (He c))],1,[],0⟩ (.ret (.zb yR)) ⟨[(0,.cells [.zi qc_nodesR])],1,[],0⟩):=by
 unfold Cs at h
 refine CT Hd.mixed (Ay Tryz.func163 adx ?_)
 revert h
 refine Ah ?_
 rintro ⟨y1a,y1b⟩ hy1
 dsimp only
 let o1:LP:=[AG (A9 (A4 hy1) 0)]
 refine Ad (fun hv=>?_) fun hv=>?_
 subst hv
 refine Ad (fun hb1=>?_) fun hb1=>?_
 refine Ad (fun hb2=>?_) fun hb2=>?_
 refine Ah fun y2 hy2=>?_
 rintro ⟨⟩
 exact Ao Hd.Aa _ _ [] [none] (Ag 300 (o1++[pb hb1,pb hb2,An (FC hy2)])) (by kernel_rfl) .body
 rintro ⟨⟩
 exact Ao Hd.Aa _ _ [] [none] (Ag 300 (o1++[pb hb1,pb hb2])) (by kernel_rfl) .body
 rintro ⟨⟩
 exact Ao Hd.Aa _ _ [] [none] (Ag 300 (o1++[pb hb1])) (by kernel_rfl) .body
 subst hv
 rintro ⟨⟩
 exact Ao Hd.Aa _ _ [] [none] (Ag 300 o1) (by kernel_rfl) .body
noncomputable def oT:Code:=AY Tryz.f79
theorem b79:Tryz.f79.body=some oT:=by kernel_rfl
noncomputable def CX (As:Ck→Nd→Int→Option (Bool×Int)) (AQ:Ck→Nd→Int→Option (Bool×Int)) (AU:Ck→Nd→Int→Option (Bool×Int)) (AH:Ck→(List Nd)→Int→Option (Bool×Int)) (depth:Int) (i0:Nat) (e0:Nd) (w0_0:Int):Option (Lp Int Int (Bool×Int)):=(As (⟨w0_0⟩:Ck) e0 depth).bind fun (y1a,y1b)=>cond y1a (some (.nx y1b)) (some (.rt (false,y1b)))
noncomputable def Cy (As:Ck→Nd→Int→Option (Bool×Int)) (AQ:Ck→Nd→Int→Option (Bool×Int)) (AU:Ck→Nd→Int→Option (Bool×Int)) (AH:Ck→(List Nd)→Int→Option (Bool×Int)) (c:Ck) (list:(List Nd)) (depth:Int):Option (Bool×Int):=(GW list.length (AL (fun i y x=>CX As AQ AU AH depth i y x) (fun x=>x) (list.drop 0) 0 c.nodes)).bind (GQ (fun (w0_0_2:Int)=>some (true,w0_0_2)) (fun v=>some v))
theorem Ka (As:Ck→Nd→Int→Option (Bool×Int)) (AQ:Ck→Nd→Int→Option (Bool×Int)) (AU:Ck→Nd→Int→Option (Bool×Int)) (AH:Ck→(List Nd)→Int→Option (Bool×Int)) (A4:∀ {c:Ck} {n:Nd} {depth:Int} {yR:Bool} {qc_nodesR:Int},As c n depth=some (yR,qc_nodesR)→Sound P G (.call 76 [.ptr 0 0,.agg (Bo n),.zi depth] ⟨[(0,.cells (He c))],1,[],0⟩ (.ret (.zb yR)) ⟨[(0,.cells [.zi qc_nodesR])],1,[],0⟩)) (Ei:∀ {c:Ck} {n:Nd} {depth:Int} {yR:Bool} {qc_nodesR:Int},AQ c n depth=some (yR,qc_nodesR)→Sound P G (.call 123 [.ptr 0 0,.agg (Bo n),.zi depth] ⟨[(0,.cells (He c))],1,[],0⟩ (.ret (.zb yR)) ⟨[(0,.cells [.zi qc_nodesR])],1,[],0⟩)) (Ek:∀ {c:Ck} {n:Nd} {depth:Int} {yR:Bool} {qc_nodesR:Int},AU c n depth=some (yR,qc_nodesR)→Sound P G (.call 163 [.ptr 0 0,.agg (Bo n),.zi depth] ⟨[(0,.cells (He c))],1,[],0⟩ (.ret (.zb yR)) ⟨[(0,.cells [.zi qc_nodesR])],1,[],0⟩)) (C2:∀ {c:Ck} {list:(List Nd)} {depth:Int} {yR:Bool} {qc_nodesR:Int},AH c list depth=some (yR,qc_nodesR)→Sound P G (.call 79 [.ptr 0 0,.sl .lost list.length (Cg list),.zi depth,.fn (.func 76) [.ptr 0 0] []] ⟨[(0,.cells (He c))],1,[],0⟩ (.ret (.zb yR)) ⟨[(0,.cells [.zi qc_nodesR])],1,[],0⟩)) {c:Ck} {list:(List Nd)} {depth:Int} {yR:Bool} {qc_nodesR:Int} (h:Cy As AQ AU AH c list depth=some (yR,qc_nodesR)):Sound P G (.call 79 [.ptr 0 0,.sl .lost list.length (Cg list),.zi depth,.fn (.func 76) [.ptr 0 0] []] ⟨[(0,.cells (He c))],1,[],0⟩ (.ret (.zb yR)) ⟨[(0,.cells [.zi qc_nodesR])],1,[],0⟩):=by
 unfold Cy at h
 refine CT Hd.mixed (Ay Tryz.func79 b79 ?_)
 revert h
 refine DF (fun Q v=>Iu P G Tryz.f79 1 ⟨[(0,.cells (He c))],1,[],0⟩ Q (.zb v.1) ⟨[(0,.cells [.zi v.2])],1,[],0⟩) (fun i0 (w0_0:Int) (j0:List Value)=>fr 23 [(2,.zi depth),(3,.fn (.func 76) [.ptr 0 0] []),(11,.sl .lost list.length (Cg list)),(12,.zi ((list.length:Nat):Int)),(13,.zi ((i0:Nat):Int))] [8,14,20,21] j0) (fun (w0_0:Int)=>⟨[(0,.cells [.zi w0_0])],1,[],0⟩) (fun (w0_0:Int) (jx:List Value)=>fr 23 [] [8,14,20,21] jx) (fun (w0_0:Int)=>⟨[(0,.cells [.zi w0_0])],1,[],0⟩) [bF] (Dq [] 0 (sb oT 52) [.code (sb oT 7)] (Ag 300 []) (by kernel_rfl)) ?_ ?_ ?_ (fun v h=>by cases h;exact .outer .body)
 rintro i0 w0_0 j0 hge hq
 exact B1 (Ag 300 [pb (IJ hge)]) (by kernel_rfl) (hq (js 4 j0 [(1,bF)]))
 rintro i0 e0 w0_0 j0 r he0 hi0 mi0 k
 show CX As AQ AU AH depth i0 e0 w0_0=some r→_
 unfold CX
 refine Ah ?_
 rintro ⟨y1a,y1b⟩ hy1
 dsimp only
 let o1:LP:=[pb (Fk hi0),BT (BQ .lost he0),AG (A9 (A4 hy1) 0)]
 refine Ad (fun hv=>?_) fun hv=>?_
 subst hv
 rintro ⟨⟩
 exact Bt Hd.Aa [fq (Am.Bk list)] [none] (Ag 300 (o1++[pi mi0])) (by kernel_rfl) (k [(jv j0 0),bT,bT,bF])
 subst hv
 rintro ⟨⟩
 exact Ao Hd.Aa _ _ [] [none] (Ag 300 o1) (by kernel_rfl) (.Em k)
 rintro w0_0_2 jx_2
 rintro ⟨⟩
 exact Ao Hd.Aa _ _ [] [none] (BJ 300 []) (by kernel_rfl) .body
mutual
noncomputable def AJ:Nat→Ck→Nd→Int→Option (Bool×Int)
 | 0,_,_,_=>none
 | qn+1,c,n,depth=>CN (AJ qn) (A2 qn) (AN qn) (AK qn) c n depth
noncomputable def A2:Nat→Ck→Nd→Int→Option (Bool×Int)
 | 0,_,_,_=>none
 | qn+1,c,n,depth=>Cn (AJ qn) (A2 qn) (AN qn) (AK qn) c n depth
noncomputable def AN:Nat→Ck→Nd→Int→Option (Bool×Int)
 | 0,_,_,_=>none
 | qn+1,c,n,depth=>Cs (AJ qn) (A2 qn) (AN qn) (AK qn) c n depth
noncomputable def AK:Nat→Ck→(List Nd)→Int→Option (Bool×Int)
 | 0,_,_,_=>none
 | qn+1,c,list,depth=>Cy (AJ qn) (A2 qn) (AN qn) (AK qn) c list depth
end
theorem IK:∀ qn:Nat,(∀ {c:Ck} {n:Nd} {depth:Int} {yR:Bool} {qc_nodesR:Int},AJ qn c n depth=some (yR,qc_nodesR)→Sound P G (.call 76 [.ptr 0 0,.agg (Bo n),.zi depth] ⟨[(0,.cells (He c))],1,[],0⟩ (.ret (.zb yR)) ⟨[(0,.cells [.zi qc_nodesR])],1,[],0⟩))∧(∀ {c:Ck} {n:Nd} {depth:Int} {yR:Bool} {qc_nodesR:Int},A2 qn c n depth=some (yR,qc_nodesR)→Sound P G (.call 123 [.ptr 0 0,.agg (Bo n),.zi depth] ⟨[(0,.cells (He c))],1,[],0⟩ (.ret (.zb yR)) ⟨[(0,.cells [.zi qc_nodesR])],1,[],0⟩))∧(∀ {c:Ck} {n:Nd} {depth:Int} {yR:Bool} {qc_nodesR:Int},AN qn c n depth=some (yR,qc_nodesR)→Sound P G (.call 163 [.ptr 0 0,.agg (Bo n),.zi depth] ⟨[(0,.cells (He c))],1,[],0⟩ (.ret (.zb yR)) ⟨[(0,.cells [.zi qc_nodesR])],1,[],0⟩))∧(∀ {c:Ck} {list:(List Nd)} {depth:Int} {yR:Bool} {qc_nodesR:Int},AK qn c list depth=some (yR,qc_nodesR)→Sound P G (.call 79 [.ptr 0 0,.sl .lost list.length (Cg list),.zi depth,.fn (.func 76) [.ptr 0 0] []] ⟨[(0,.cells (He c))],1,[],0⟩ (.ret (.zb yR)) ⟨[(0,.cells [.zi qc_nodesR])],1,[],0⟩)):=by
 intro qn
 induction qn with
 | zero=>exact ⟨(fun h=>by simp only [AJ] at h;cases h),(fun h=>by simp only [A2] at h;cases h),(fun h=>by simp only [AN] at h;cases h),(fun h=>by simp only [AK] at h;cases h)⟩
 | succ qn ih=>exact ⟨(fun h=>LV (AJ qn) (A2 qn) (AN qn) (AK qn) ih.1 ih.2.1 ih.2.2.1 ih.2.2.2 (by rw [AJ] at h;exact h)),(fun h=>Lk (AJ qn) (A2 qn) (AN qn) (AK qn) ih.1 ih.2.1 ih.2.2.1 ih.2.2.2 (by rw [A2] at h;exact h)),(fun h=>K6 (AJ qn) (A2 qn) (AN qn) (AK qn) ih.1 ih.2.1 ih.2.2.1 ih.2.2.2 (by rw [AN] at h;exact h)),(fun h=>Ka (AJ qn) (A2 qn) (AN qn) (AK qn) ih.1 ih.2.1 ih.2.2.1 ih.2.2.2 (by rw [AK] at h;exact h))⟩
noncomputable def D5 (c:Ck) (n:Nd) (depth:Int):Option (Bool×Int):=W5 (fun qn=>AJ qn c n depth)
theorem I4 {c:Ck} {n:Nd} {depth:Int} {yR:Bool} {qc_nodesR:Int} (h:D5 c n depth=some (yR,qc_nodesR)):Sound P G (.call 76 [.ptr 0 0,.agg (Bo n),.zi depth] ⟨[(0,.cells (He c))],1,[],0⟩ (.ret (.zb yR)) ⟨[(0,.cells [.zi qc_nodesR])],1,[],0⟩):=by
 obtain ⟨qn,h⟩:=Ru h
 exact (IK qn).1 h
noncomputable def EA (c:Ck) (n:Nd) (depth:Int):Option (Bool×Int):=W5 (fun qn=>AN qn c n depth)
theorem LL {c:Ck} {n:Nd} {depth:Int} {yR:Bool} {qc_nodesR:Int} (h:EA c n depth=some (yR,qc_nodesR)):Sound P G (.call 163 [.ptr 0 0,.agg (Bo n),.zi depth] ⟨[(0,.cells (He c))],1,[],0⟩ (.ret (.zb yR)) ⟨[(0,.cells [.zi qc_nodesR])],1,[],0⟩):=by
 obtain ⟨qn,h⟩:=Ru h
 exact (IK qn).2.2.1 h
noncomputable def ad2:Code:=AY Tryz.f164
theorem adG:Tryz.f164.body=some ad2:=by kernel_rfl
noncomputable def Fb  (day:Int):Option Bool:=cond (Kt 0 day) (cond (Kt day 36524) (some true) (some false)) (some false)
theorem H9   {day:Int} {yR:Bool} (h:Fb  day=some yR):Pure P G 164 [.zi day] (.zb yR):=by
 unfold Fb at h
 refine BF Hd.mixed Hd.Aa (Ay Tryz.func164 adG ?_) (AW rfl rfl) rfl
 revert h
 refine Ad (fun hb1=>?_) fun hb1=>?_
 refine Ad (fun hb2=>?_) fun hb2=>?_
 rintro ⟨⟩
 exact rT [pb hb1,pb hb2]
 rintro ⟨⟩
 exact rT [pb hb1,pb hb2]
 rintro ⟨⟩
 exact rT [pb hb1]
noncomputable def aev:Code:=AY Tryz.f125
theorem aee:Tryz.f125.body=some aev:=by kernel_rfl
noncomputable def D6  (c:Ck) (n:Nd) (depth:Int):Option (Bool×Int):=(BI c n depth).bind fun (y1a,y1b)=>cond y1a (cond (Bp n.kind 5) (cond (DH n.n 0) (some (false,y1b)) (cond (DH 1000000 n.n) (some (false,y1b)) (cond (DH 0 ((n.kids.length:Nat):Int)) (some (false,y1b)) ((Fb n.fr).bind fun y2=>cond y2 (cond (Kt n.to n.fr) (some (false,y1b)) (cond (DH 36525 n.to) (some (false,y1b)) ((Fb n.known).bind fun y3=>cond y3 ((Bx n (⟨0,ByteArray.empty,ByteArray.empty,n.n,n.fr,n.to,n.known,(⟨0,[]⟩:Fn),[],0⟩:Nd)).bind fun y4=>some (y4,y1b)) (some (false,y1b))))) (some (false,y1b)))))) (some (false,y1b))) (some (false,y1b))
theorem Nn {c:Ck} {n:Nd} {depth:Int} {yR:Bool} {qc_nodesR:Int} (hS:Sound P G (.call 125 [.ptr 0 0,.agg (Bo n),.zi depth] ⟨[(0,.cells (He c))],1,[],0⟩ (.ret (.zb yR)) ⟨[(0,.cells [.zi qc_nodesR])],1,[],0⟩)) (u0:Nat) (hnb:([u0]:List Nat).Nodup:=by decide) (hnt:([]:List Nat).Nodup:=by decide):Cd.ok P G (.callU 125 [.ptr u0 0,.agg (Bo n),.zi depth] (.ret (.zb yR)) [(u0,.cells (He c))] [] [(u0,.cells [.zi qc_nodesR])] []) :=
 CS (M:=[.cells (He c)]) (M2:=[.cells [.zi qc_nodesR]]) (T:=[]) (T2:=[]) (k:=1) (j:=0) Hd.Aa _ _ _ _ hS rfl rfl rfl rfl rfl hnb hnt rfl rfl (.cons (.cells (.pl (Ni.pl c))) .nil) (.cons (.cells (.pl (AW rfl rfl))) .nil) (.cons (.ptr (by decide)) (.cons (.pl (Am.Dp n)) (.cons (.pl rfl) .nil))) (.pl rfl) (fun e he=>by simp only [List.mem_singleton] at he;subst he;exact (.arg (.here .ptr)))
theorem LN   {c:Ck} {n:Nd} {depth:Int} {yR:Bool} {qc_nodesR:Int} (h:D6  c n depth=some (yR,qc_nodesR)):Sound P G (.call 125 [.ptr 0 0,.agg (Bo n),.zi depth] ⟨[(0,.cells (He c))],1,[],0⟩ (.ret (.zb yR)) ⟨[(0,.cells [.zi qc_nodesR])],1,[],0⟩):=by
 unfold D6 at h
 refine CT Hd.mixed (Ay Tryz.func125 aee ?_)
 revert h
 refine Ah ?_
 rintro ⟨y1a,y1b⟩ hy1
 dsimp only
 let o1:LP:=[AG (D4 (Df hy1) 0)]
 refine Ad (fun hv=>?_) fun hv=>?_
 subst hv
 refine Ad (fun hb1=>?_) fun hb1=>?_
 refine Ad (fun hb2=>?_) fun hb2=>?_
 rintro ⟨⟩
 exact Ao Hd.Aa _ _ [] [none] (Ag 300 (o1++[pn hb1,pb hb2])) (by kernel_rfl) .body
 let o2:LP:=o1++[pn hb1,pb hb2]
 refine Ad (fun hb3=>?_) fun hb3=>?_
 rintro ⟨⟩
 exact Ao Hd.Aa _ _ [] [none] (Ag 300 (o2++[pb hb3])) (by kernel_rfl) .body
 refine Ad (fun hb4=>?_) fun hb4=>?_
 rintro ⟨⟩
 exact Ao Hd.Aa _ _ [] [none] (Ag 300 (o2++[pb hb3,pb hb4])) (by kernel_rfl) .body
 refine Ah fun y2 hy2=>?_
 let o3:LP:=o2++[pb hb3,pb hb4,An (H9 hy2)]
 refine Ad (fun hv=>?_) fun hv=>?_
 subst hv
 refine Ad (fun hb5=>?_) fun hb5=>?_
 rintro ⟨⟩
 exact Ao Hd.Aa _ _ [] [none] (Ag 300 (o3++[pb hb5])) (by kernel_rfl) .body
 refine Ad (fun hb6=>?_) fun hb6=>?_
 rintro ⟨⟩
 exact Ao Hd.Aa _ _ [] [none] (Ag 300 (o3++[pb hb5,pb hb6])) (by kernel_rfl) .body
 refine Ah fun y3 hy3=>?_
 refine Ad (fun hv=>?_) fun hv=>?_
 subst hv
 refine Ah fun y4 hy4=>?_
 rintro ⟨⟩
 exact Ao Hd.Aa _ _ [] [none] (Ag 300 (o3++[pb hb5,pb hb6,An (H9 hy3),Fl (.r (.g (.r (.r (.r (.r (.r (.r (.r (.r (.z (.z (.r .nil))))))))))) .nil)) (BD hy4)])) (by kernel_rfl) .body
 subst hv
 rintro ⟨⟩
 exact Ao Hd.Aa _ _ [] [none] (Ag 300 (o3++[pb hb5,pb hb6,An (H9 hy3)])) (by kernel_rfl) .body
 subst hv
 rintro ⟨⟩
 exact Ao Hd.Aa _ _ [] [none] (Ag 300 o3) (by kernel_rfl) .body
 rintro ⟨⟩
 exact Ao Hd.Aa _ _ [] [none] (Ag 300 (o1++[pn hb1])) (by kernel_rfl) .body
 subst hv
 rintro ⟨⟩
 exact Ao Hd.Aa _ _ [] [none] (Ag 300 o1) (by kernel_rfl) .body
noncomputable def EO  (depth:Int) (i0:Nat) (e0:Nd) (w0_0:Int):Option (Lp Int Int (Bool×Int)):=(EA (⟨w0_0⟩:Ck) e0 depth).bind fun (y1a,y1b)=>cond y1a (some (.nx y1b)) (some (.rt (false,y1b)))
noncomputable def DA  (c:Ck) (list:(List Nd)) (depth:Int):Option (Bool×Int):=(GW list.length (AL (fun i y x=>EO  depth i y x) (fun x=>x) (list.drop 0) 0 c.nodes)).bind (GQ (fun (w0_0_2:Int)=>some (true,w0_0_2)) (fun v=>some v))
theorem KT {c:Ck} {list:(List Nd)} {depth:Int} {yR:Bool} {qc_nodesR:Int} (hS:Sound P G (.call 79 [.ptr 0 0,.sl .lost list.length (Cg list),.zi depth,.fn (.func 163) [.ptr 0 0] []] ⟨[(0,.cells (He c))],1,[],0⟩ (.ret (.zb yR)) ⟨[(0,.cells [.zi qc_nodesR])],1,[],0⟩)) (u0:Nat) (hnb:([u0]:List Nat).Nodup:=by decide) (hnt:([]:List Nat).Nodup:=by decide):Cd.ok P G (.callU 79 [.ptr u0 0,.sl .lost list.length (Cg list),.zi depth,.fn (.func 163) [.ptr u0 0] []] (.ret (.zb yR)) [(u0,.cells (He c))] [] [(u0,.cells [.zi qc_nodesR])] []) :=
 CS (M:=[.cells (He c)]) (M2:=[.cells [.zi qc_nodesR]]) (T:=[]) (T2:=[]) (k:=1) (j:=0) Hd.Aa _ _ _ _ hS rfl rfl rfl rfl rfl hnb hnt rfl rfl (.cons (.cells (.pl (Ni.pl c))) .nil) (.cons (.cells (.pl (AW rfl rfl))) .nil) (.cons (.ptr (by decide)) (.cons (.pl (Am.Bk list)) (.cons (.pl rfl) (.cons (.fn (.cons (.ptr (by decide)) .nil) (.pl rfl)) .nil)))) (.pl rfl) (fun e he=>by simp only [List.mem_singleton] at he;subst he;exact (.arg (.here .ptr)))
theorem JD   {c:Ck} {list:(List Nd)} {depth:Int} {yR:Bool} {qc_nodesR:Int} (h:DA  c list depth=some (yR,qc_nodesR)):Sound P G (.call 79 [.ptr 0 0,.sl .lost list.length (Cg list),.zi depth,.fn (.func 163) [.ptr 0 0] []] ⟨[(0,.cells (He c))],1,[],0⟩ (.ret (.zb yR)) ⟨[(0,.cells [.zi qc_nodesR])],1,[],0⟩):=by
 unfold DA at h
 refine CT Hd.mixed (Ay Tryz.func79 b79 ?_)
 revert h
 refine DF (fun Q v=>Iu P G Tryz.f79 1 ⟨[(0,.cells (He c))],1,[],0⟩ Q (.zb v.1) ⟨[(0,.cells [.zi v.2])],1,[],0⟩) (fun i0 (w0_0:Int) (j0:List Value)=>fr 23 [(2,.zi depth),(3,.fn (.func 163) [.ptr 0 0] []),(11,.sl .lost list.length (Cg list)),(12,.zi ((list.length:Nat):Int)),(13,.zi ((i0:Nat):Int))] [8,14,20,21] j0) (fun (w0_0:Int)=>⟨[(0,.cells [.zi w0_0])],1,[],0⟩) (fun (w0_0:Int) (jx:List Value)=>fr 23 [] [8,14,20,21] jx) (fun (w0_0:Int)=>⟨[(0,.cells [.zi w0_0])],1,[],0⟩) [bF] (Dq [] 0 (sb oT 52) [.code (sb oT 7)] (Ag 300 []) (by kernel_rfl)) ?_ ?_ ?_ (fun v h=>by cases h;exact .outer .body)
 rintro i0 w0_0 j0 hge hq
 exact B1 (Ag 300 [pb (IJ hge)]) (by kernel_rfl) (hq (js 4 j0 [(1,bF)]))
 rintro i0 e0 w0_0 j0 r he0 hi0 mi0 k
 show EO  depth i0 e0 w0_0=some r→_
 unfold EO
 refine Ah ?_
 rintro ⟨y1a,y1b⟩ hy1
 dsimp only
 let o1:LP:=[pb (Fk hi0),BT (BQ .lost he0),AG (IE (LL hy1) 0)]
 refine Ad (fun hv=>?_) fun hv=>?_
 subst hv
 rintro ⟨⟩
 exact Bt Hd.Aa [fq (Am.Bk list)] [none] (Ag 300 (o1++[pi mi0])) (by kernel_rfl) (k [(jv j0 0),bT,bT,bF])
 subst hv
 rintro ⟨⟩
 exact Ao Hd.Aa _ _ [] [none] (Ag 300 o1) (by kernel_rfl) (.Em k)
 rintro w0_0_2 jx_2
 rintro ⟨⟩
 exact Ao Hd.Aa _ _ [] [none] (BJ 300 []) (by kernel_rfl) .body
noncomputable def aeU:Code:=AY Tryz.f126
theorem aeQ:Tryz.f126.body=some aeU:=by kernel_rfl
noncomputable def CV  (c:Ck) (n:Nd) (depth:Int):Option (Bool×Int):=(BI c n depth).bind fun (y1a,y1b)=>cond y1a ((Bx n (⟨0,ByteArray.empty,ByteArray.empty,0,0,0,0,(⟨0,[]⟩:Fn),[],0⟩:Nd)).bind fun y2=>cond y2 (cond (Bp n.kind 7) (cond (DH 0 ((n.kids.length:Nat):Int)) ((DA (⟨y1b⟩:Ck) n.kids (BW depth 1)).bind fun (y3a,y3b)=>some (y3a,y3b)) (some (false,y1b))) (cond (Bp ((n.kids.length:Nat):Int) 1) ((n.kids[0]?).bind fun x4=>(D5 (⟨y1b⟩:Ck) x4 (BW depth 1)).bind fun (y5a,y5b)=>some (y5a,y5b)) (some (false,y1b)))) (some (false,y1b))) (some (false,y1b))
theorem Ml {c:Ck} {n:Nd} {depth:Int} {yR:Bool} {qc_nodesR:Int} (hS:Sound P G (.call 126 [.ptr 0 0,.agg (Bo n),.zi depth] ⟨[(0,.cells (He c))],1,[],0⟩ (.ret (.zb yR)) ⟨[(0,.cells [.zi qc_nodesR])],1,[],0⟩)) (u0:Nat) (hnb:([u0]:List Nat).Nodup:=by decide) (hnt:([]:List Nat).Nodup:=by decide):Cd.ok P G (.callU 126 [.ptr u0 0,.agg (Bo n),.zi depth] (.ret (.zb yR)) [(u0,.cells (He c))] [] [(u0,.cells [.zi qc_nodesR])] []) :=
 CS (M:=[.cells (He c)]) (M2:=[.cells [.zi qc_nodesR]]) (T:=[]) (T2:=[]) (k:=1) (j:=0) Hd.Aa _ _ _ _ hS rfl rfl rfl rfl rfl hnb hnt rfl rfl (.cons (.cells (.pl (Ni.pl c))) .nil) (.cons (.cells (.pl (AW rfl rfl))) .nil) (.cons (.ptr (by decide)) (.cons (.pl (Am.Dp n)) (.cons (.pl rfl) .nil))) (.pl rfl) (fun e he=>by simp only [List.mem_singleton] at he;subst he;exact (.arg (.here .ptr)))
theorem Lj   {c:Ck} {n:Nd} {depth:Int} {yR:Bool} {qc_nodesR:Int} (h:CV  c n depth=some (yR,qc_nodesR)):Sound P G (.call 126 [.ptr 0 0,.agg (Bo n),.zi depth] ⟨[(0,.cells (He c))],1,[],0⟩ (.ret (.zb yR)) ⟨[(0,.cells [.zi qc_nodesR])],1,[],0⟩):=by
 unfold CV at h
 refine CT Hd.mixed (Ay Tryz.func126 aeQ ?_)
 revert h
 refine Ah ?_
 rintro ⟨y1a,y1b⟩ hy1
 dsimp only
 let o1:LP:=[AG (D4 (Df hy1) 0)]
 refine Ad (fun hv=>?_) fun hv=>?_
 subst hv
 refine Ah fun y2 hy2=>?_
 let o2:LP:=o1++[Fl (.r (.g (.r (.r (.r (.r (.r (.r (.r (.r (.z (.z (.r .nil))))))))))) .nil)) (BD hy2)]
 refine Ad (fun hv=>?_) fun hv=>?_
 subst hv
 refine Ad (fun hb1=>?_) fun hb1=>?_
 refine Ad (fun hb2=>?_) fun hb2=>?_
 refine Ah ?_
 rintro ⟨y3a,y3b⟩ hy3
 dsimp only
 rintro ⟨⟩
 exact Ao Hd.Aa _ _ [] [none] (Ag 300 (o2++[pb hb1,pb hb2,pk,AG (KT (JD hy3) 0)])) (by kernel_rfl) .body
 rintro ⟨⟩
 exact Ao Hd.Aa _ _ [] [none] (Ag 300 (o2++[pb hb1,pb hb2])) (by kernel_rfl) .body
 refine Ad (fun hb3=>?_) fun hb3=>?_
 refine Ah fun x4 hx4=>?_
 refine Ah ?_
 rintro ⟨y5a,y5b⟩ hy5
 dsimp only
 rintro ⟨⟩
 exact Ao Hd.Aa _ _ [] [none] (Ag 300 (o2++[pb hb1,pb hb3,BT (BQ .lost hx4),pk,AG (A9 (I4 hy5) 0)])) (by kernel_rfl) .body
 rintro ⟨⟩
 exact Ao Hd.Aa _ _ [] [none] (Ag 300 (o2++[pb hb1,pb hb3])) (by kernel_rfl) .body
 subst hv
 rintro ⟨⟩
 exact Ao Hd.Aa _ _ [] [none] (Ag 300 o2) (by kernel_rfl) .body
 subst hv
 rintro ⟨⟩
 exact Ao Hd.Aa _ _ [] [none] (Ag 300 o1) (by kernel_rfl) .body
noncomputable def EP  (depth:Int) (i0:Nat) (e0:Nd) (w0_0:Int):Option (Lp Int Int (Bool×Int)):=(CV (⟨w0_0⟩:Ck) e0 depth).bind fun (y1a,y1b)=>cond y1a (some (.nx y1b)) (some (.rt (false,y1b)))
noncomputable def Dy  (c:Ck) (list:(List Nd)) (depth:Int):Option (Bool×Int):=(GW list.length (AL (fun i y x=>EP  depth i y x) (fun x=>x) (list.drop 0) 0 c.nodes)).bind (GQ (fun (w0_0_2:Int)=>some (true,w0_0_2)) (fun v=>some v))
theorem KS {c:Ck} {list:(List Nd)} {depth:Int} {yR:Bool} {qc_nodesR:Int} (hS:Sound P G (.call 79 [.ptr 0 0,.sl .lost list.length (Cg list),.zi depth,.fn (.func 126) [.ptr 0 0] []] ⟨[(0,.cells (He c))],1,[],0⟩ (.ret (.zb yR)) ⟨[(0,.cells [.zi qc_nodesR])],1,[],0⟩)) (u0:Nat) (hnb:([u0]:List Nat).Nodup:=by decide) (hnt:([]:List Nat).Nodup:=by decide):Cd.ok P G (.callU 79 [.ptr u0 0,.sl .lost list.length (Cg list),.zi depth,.fn (.func 126) [.ptr u0 0] []] (.ret (.zb yR)) [(u0,.cells (He c))] [] [(u0,.cells [.zi qc_nodesR])] []) :=
 CS (M:=[.cells (He c)]) (M2:=[.cells [.zi qc_nodesR]]) (T:=[]) (T2:=[]) (k:=1) (j:=0) Hd.Aa _ _ _ _ hS rfl rfl rfl rfl rfl hnb hnt rfl rfl (.cons (.cells (.pl (Ni.pl c))) .nil) (.cons (.cells (.pl (AW rfl rfl))) .nil) (.cons (.ptr (by decide)) (.cons (.pl (Am.Bk list)) (.cons (.pl rfl) (.cons (.fn (.cons (.ptr (by decide)) .nil) (.pl rfl)) .nil)))) (.pl rfl) (fun e he=>by simp only [List.mem_singleton] at he;subst he;exact (.arg (.here .ptr)))
theorem JC   {c:Ck} {list:(List Nd)} {depth:Int} {yR:Bool} {qc_nodesR:Int} (h:Dy  c list depth=some (yR,qc_nodesR)):Sound P G (.call 79 [.ptr 0 0,.sl .lost list.length (Cg list),.zi depth,.fn (.func 126) [.ptr 0 0] []] ⟨[(0,.cells (He c))],1,[],0⟩ (.ret (.zb yR)) ⟨[(0,.cells [.zi qc_nodesR])],1,[],0⟩):=by
 unfold Dy at h
 refine CT Hd.mixed (Ay Tryz.func79 b79 ?_)
 revert h
 refine DF (fun Q v=>Iu P G Tryz.f79 1 ⟨[(0,.cells (He c))],1,[],0⟩ Q (.zb v.1) ⟨[(0,.cells [.zi v.2])],1,[],0⟩) (fun i0 (w0_0:Int) (j0:List Value)=>fr 23 [(2,.zi depth),(3,.fn (.func 126) [.ptr 0 0] []),(11,.sl .lost list.length (Cg list)),(12,.zi ((list.length:Nat):Int)),(13,.zi ((i0:Nat):Int))] [8,14,20,21] j0) (fun (w0_0:Int)=>⟨[(0,.cells [.zi w0_0])],1,[],0⟩) (fun (w0_0:Int) (jx:List Value)=>fr 23 [] [8,14,20,21] jx) (fun (w0_0:Int)=>⟨[(0,.cells [.zi w0_0])],1,[],0⟩) [bF] (Dq [] 0 (sb oT 52) [.code (sb oT 7)] (Ag 300 []) (by kernel_rfl)) ?_ ?_ ?_ (fun v h=>by cases h;exact .outer .body)
 rintro i0 w0_0 j0 hge hq
 exact B1 (Ag 300 [pb (IJ hge)]) (by kernel_rfl) (hq (js 4 j0 [(1,bF)]))
 rintro i0 e0 w0_0 j0 r he0 hi0 mi0 k
 show EP  depth i0 e0 w0_0=some r→_
 unfold EP
 refine Ah ?_
 rintro ⟨y1a,y1b⟩ hy1
 dsimp only
 let o1:LP:=[pb (Fk hi0),BT (BQ .lost he0),AG (Ml (Lj hy1) 0)]
 refine Ad (fun hv=>?_) fun hv=>?_
 subst hv
 rintro ⟨⟩
 exact Bt Hd.Aa [fq (Am.Bk list)] [none] (Ag 300 (o1++[pi mi0])) (by kernel_rfl) (k [(jv j0 0),bT,bT,bF])
 subst hv
 rintro ⟨⟩
 exact Ao Hd.Aa _ _ [] [none] (Ag 300 o1) (by kernel_rfl) (.Em k)
 rintro w0_0_2 jx_2
 rintro ⟨⟩
 exact Ao Hd.Aa _ _ [] [none] (BJ 300 []) (by kernel_rfl) .body
noncomputable def B80:Code:=AY Tryz.f80
theorem b80:Tryz.f80.body=some B80:=by kernel_rfl
noncomputable def C3  (y1b:Int) (i0:Nat) (e0:Nd) (w2_6:Int) (w2_7:Int) (w2_8:Int):Option (Lp (Int×Int×Int) (Int×Int×Int) (Bool×Int)):=cond (DH e0.kind 6) (some (.rt (false,y1b))) (cond (DH 8 e0.kind) (some (.rt (false,y1b))) (cond (Bp e0.kind 6) (some (.nx ((BW w2_6 1),w2_7,w2_8))) (cond (Bp e0.kind 7) (some (.nx (w2_6,(BW w2_7 1),w2_8))) (cond (Bp e0.kind 8) (some (.nx (w2_6,w2_7,(BW w2_8 1)))) (none)))))
noncomputable def De  (c:Ck) (n:Nd) (depth:Int):Option (Bool×Int):=(BI c n depth).bind fun (y1a,y1b)=>cond y1a (cond (Bp n.kind 2) ((Cu n.name).bind fun y2=>cond y2 ((DP n.unit).bind fun y3=>cond y3 (cond (Bp ((n.kids.length:Nat):Int) 0) ((Bx n (⟨0,n.name,n.unit,0,0,0,0,(⟨0,[]⟩:Fn),[],0⟩:Nd)).bind fun y4=>some (y4,y1b)) (some (false,y1b))) (some (false,y1b))) (some (false,y1b))) (cond (Bp n.kind 3) ((Cu n.name).bind fun y5=>cond y5 ((DP n.unit).bind fun y6=>cond y6 (cond (Kt 1 n.n) (cond (Kt n.n 4) (cond (Bp ((n.kids.length:Nat):Int) 0) ((Bx n (⟨0,n.name,n.unit,n.n,0,0,0,(⟨0,[]⟩:Fn),[],0⟩:Nd)).bind fun y7=>some (y7,y1b)) (some (false,y1b))) (some (false,y1b))) (some (false,y1b))) (some (false,y1b))) (some (false,y1b))) (cond (Bp n.kind 4) ((CW n.n).bind fun y8=>cond y8 ((Cu n.name).bind fun y9=>cond y9 ((Bx n (⟨0,n.name,ByteArray.empty,n.n,0,0,0,(⟨0,[]⟩:Fn),[],0⟩:Nd)).bind fun y10=>cond y10 (cond (Bp ((n.kids.length:Nat):Int) 0) (some (false,y1b)) ((Jv n.kids 1 ((n.kids.length:Nat):Int)).bind fun l11=>(GW l11.length (AL (fun i y x=>C3  y1b i y x.1 x.2.1 x.2.2) (fun x=>(x.1,x.2.1,x.2.2)) (l11.drop 0) 0 (0,0,0))).bind (GQ (fun ((w2_6_12,w2_7_12,w2_8_12):(Int×Int×Int))=>cond (Bp w2_8_12 1) (cond (DH 1 w2_7_12) (some (false,y1b)) ((n.kids[0]?).bind fun x13=>(D6 (⟨y1b⟩:Ck) x13 (BW depth 1)).bind fun (y14a,y14b)=>cond y14a ((Dy (⟨y14b⟩:Ck) l11 (BW depth 1)).bind fun (y15a,y15b)=>some (y15a,y15b)) (some (false,y14b)))) (some (false,y1b))) (fun v=>some v)))) (some (false,y1b))) (some (false,y1b))) (some (false,y1b))) (some (false,y1b))))) (some (false,y1b))
theorem Nr {c:Ck} {n:Nd} {depth:Int} {yR:Bool} {qc_nodesR:Int} (hS:Sound P G (.call 80 [.ptr 0 0,.agg (Bo n),.zi depth] ⟨[(0,.cells (He c))],1,[],0⟩ (.ret (.zb yR)) ⟨[(0,.cells [.zi qc_nodesR])],1,[],0⟩)) (u0:Nat) (hnb:([u0]:List Nat).Nodup:=by decide) (hnt:([]:List Nat).Nodup:=by decide):Cd.ok P G (.callU 80 [.ptr u0 0,.agg (Bo n),.zi depth] (.ret (.zb yR)) [(u0,.cells (He c))] [] [(u0,.cells [.zi qc_nodesR])] []) :=
 CS (M:=[.cells (He c)]) (M2:=[.cells [.zi qc_nodesR]]) (T:=[]) (T2:=[]) (k:=1) (j:=0) Hd.Aa _ _ _ _ hS rfl rfl rfl rfl rfl hnb hnt rfl rfl (.cons (.cells (.pl (Ni.pl c))) .nil) (.cons (.cells (.pl (AW rfl rfl))) .nil) (.cons (.ptr (by decide)) (.cons (.pl (Am.Dp n)) (.cons (.pl rfl) .nil))) (.pl rfl) (fun e he=>by simp only [List.mem_singleton] at he;subst he;exact (.arg (.here .ptr)))
theorem LY   {c:Ck} {n:Nd} {depth:Int} {yR:Bool} {qc_nodesR:Int} (h:De  c n depth=some (yR,qc_nodesR)):Sound P G (.call 80 [.ptr 0 0,.agg (Bo n),.zi depth] ⟨[(0,.cells (He c))],1,[],0⟩ (.ret (.zb yR)) ⟨[(0,.cells [.zi qc_nodesR])],1,[],0⟩):=by
 unfold De at h
 refine CT Hd.mixed (Ay Tryz.func80 b80 ?_)
 revert h
 refine Ah ?_
 rintro ⟨y1a,y1b⟩ hy1
 dsimp only
 let o1:LP:=[AG (D4 (Df hy1) 0)]
 refine Ad (fun hv=>?_) fun hv=>?_
 subst hv
 refine Ad (fun hb1=>?_) fun hb1=>?_
 refine Ah fun y2 hy2=>?_
 let o2:LP:=o1++[pb hb1,An (FZ hy2)]
 refine Ad (fun hv=>?_) fun hv=>?_
 subst hv
 refine Ah fun y3 hy3=>?_
 refine Ad (fun hv=>?_) fun hv=>?_
 subst hv
 refine Ad (fun hb2=>?_) fun hb2=>?_
 refine Ah fun y4 hy4=>?_
 rintro ⟨⟩
 exact Ao Hd.Aa _ _ [] [none] (Ag 300 (o2++[An (Eo hy3),pb hb2,Fl (.r (.g (.r (.r (.r (.r (.r (.r (.r (.r (.z (.z (.r .nil))))))))))) .nil)) (BD hy4)])) (by kernel_rfl) .body
 rintro ⟨⟩
 exact Ao Hd.Aa _ _ [] [none] (Ag 300 (o2++[An (Eo hy3),pb hb2])) (by kernel_rfl) .body
 subst hv
 rintro ⟨⟩
 exact Ao Hd.Aa _ _ [] [none] (Ag 300 (o2++[An (Eo hy3)])) (by kernel_rfl) .body
 subst hv
 rintro ⟨⟩
 exact Ao Hd.Aa _ _ [] [none] (Ag 300 o2) (by kernel_rfl) .body
 let o3:LP:=o1++[pb hb1]
 refine Ad (fun hb3=>?_) fun hb3=>?_
 refine Ah fun y5 hy5=>?_
 let o4:LP:=o3++[pb hb3,An (FZ hy5)]
 refine Ad (fun hv=>?_) fun hv=>?_
 subst hv
 refine Ah fun y6 hy6=>?_
 let o5:LP:=o4++[An (Eo hy6)]
 refine Ad (fun hv=>?_) fun hv=>?_
 subst hv
 refine Ad (fun hb4=>?_) fun hb4=>?_
 refine Ad (fun hb5=>?_) fun hb5=>?_
 refine Ad (fun hb6=>?_) fun hb6=>?_
 refine Ah fun y7 hy7=>?_
 rintro ⟨⟩
 exact Ao Hd.Aa _ _ [] [none] (Ag 300 (o5++[pb hb4,pb hb5,pb hb6,Fl (.r (.g (.r (.r (.r (.r (.r (.r (.r (.r (.z (.z (.r .nil))))))))))) .nil)) (BD hy7)])) (by kernel_rfl) .body
 rintro ⟨⟩
 exact Ao Hd.Aa _ _ [] [none] (Ag 300 (o5++[pb hb4,pb hb5,pb hb6])) (by kernel_rfl) .body
 rintro ⟨⟩
 exact Ao Hd.Aa _ _ [] [none] (Ag 300 (o5++[pb hb4,pb hb5])) (by kernel_rfl) .body
 rintro ⟨⟩
 exact Ao Hd.Aa _ _ [] [none] (Ag 300 (o5++[pb hb4])) (by kernel_rfl) .body
 subst hv
 rintro ⟨⟩
 exact Ao Hd.Aa _ _ [] [none] (Ag 300 o5) (by kernel_rfl) .body
 subst hv
 rintro ⟨⟩
 exact Ao Hd.Aa _ _ [] [none] (Ag 300 o4) (by kernel_rfl) .body
 refine Ad (fun hb7=>?_) fun hb7=>?_
 refine Ah fun y8 hy8=>?_
 let o6:LP:=o3++[pb hb3,pb hb7,An (FC hy8)]
 refine Ad (fun hv=>?_) fun hv=>?_
 subst hv
 refine Ah fun y9 hy9=>?_
 let o7:LP:=o6++[An (FZ hy9)]
 refine Ad (fun hv=>?_) fun hv=>?_
 subst hv
 refine Ah fun y10 hy10=>?_
 let o8:LP:=o7++[Fl (.r (.g (.r (.r (.r (.r (.r (.r (.r (.r (.z (.z (.r .nil))))))))))) .nil)) (BD hy10)]
 refine Ad (fun hv=>?_) fun hv=>?_
 subst hv
 refine Ad (fun hb8=>?_) fun hb8=>?_
 rintro ⟨⟩
 exact Ao Hd.Aa _ _ [] [none] (Ag 300 (o8++[pb hb8])) (by kernel_rfl) .body
 refine Ah fun l11 hl11=>?_
 refine DF (fun Q v=>Iu P G Tryz.f80 1 ⟨[(0,.cells (He c))],1,[],0⟩ Q (.zb v.1) ⟨[(0,.cells [.zi v.2])],1,[],0⟩) (fun i0 ((w2_6,w2_7,w2_8):(Int×Int×Int)) (j0:List Value)=>fr 158 [(0,.ptr 0 0),(2,.zi depth),(4,.ptr 1 0),(7,.ptr 2 0),(110,.sl .lost l11.length (Cg l11)),(111,.zi ((l11.length:Nat):Int)),(112,.zi ((i0:Nat):Int))] [6,13,14,17,18,21,22,25,26,27,31,32,33,40,41,42,43,46,47,50,51,52,55,56,57,60,61,62,66,67,68,77,78,79,80,83,84,85,88,89,90,91,98,99,100,101,105,106,113,118,119,122,123,133,134,137,138,146,147,156,157] j0) (fun ((w2_6,w2_7,w2_8):(Int×Int×Int))=>⟨[(2,.cells [.zi 0,.zi 0,.zi 0,.zi 0,.zi 0,.zi 0,.zi w2_6,.zi w2_7,.zi w2_8]),(1,.cells (Bo n)),(0,.cells [.zi y1b])],3,[],0⟩) (fun ((w2_6,w2_7,w2_8):(Int×Int×Int)) (jx:List Value)=>fr 158 [(0,.ptr 0 0),(2,.zi depth),(4,.ptr 1 0),(7,.ptr 2 0)] [6,13,14,17,18,21,22,25,26,27,31,32,33,40,41,42,43,46,47,50,51,52,55,56,57,60,61,62,66,67,68,77,78,79,80,83,84,85,88,89,90,91,98,99,100,101,105,106,113,118,119,122,123,133,134,137,138,146,147,156,157] jx) (fun ((w2_6,w2_7,w2_8):(Int×Int×Int))=>⟨[(2,.cells [.zi 0,.zi 0,.zi 0,.zi 0,.zi 0,.zi 0,.zi w2_6,.zi w2_7,.zi w2_8]),(1,.cells (Bo n)),(0,.cells [.zi y1b])],3,[],0⟩) [bF,bT,bF,bF,bF,undef,undef,undef,undef,undef,undef,undef,undef,undef,undef,bF,bF,undef,undef,undef,undef,undef,undef,undef,undef,undef,undef,undef,undef,undef,undef,undef,undef,bT,bT,bT,bF,bF,bT,bF,bF,bF,bT,bF,bF,bF,bF,bF] (Dq [] 1 (sb B80 241588) [.code (sb B80 30199),.endb 0,.code (sb B80 15)] (Ag 300 (o8++[pb hb8,PA (Ir hl11)])) (by kernel_rfl)) ?_ ?_ ?_ (fun v h=>by cases h;exact .outer .body)
 rintro i0 ⟨w2_6,w2_7,w2_8⟩ j0 hge hq
 exact B1 (Ag 300 [pb (IJ hge)]) (by kernel_rfl) (hq (js 61 j0 [(48,bF)]))
 rintro i0 e0 ⟨w2_6,w2_7,w2_8⟩ j0 r he0 hi0 mi0 k
 show C3  y1b i0 e0 w2_6 w2_7 w2_8=some r→_
 unfold C3
 let o9:LP:=[pb (Fk hi0),BT (BQ .lost he0)]
 refine Ad (fun hb9=>?_) fun hb9=>?_
 rintro ⟨⟩
 exact Ao Hd.Aa _ _ [] [none] (Ag 300 (o9++[pb hb9])) (by kernel_rfl) (.Em k)
 refine Ad (fun hb10=>?_) fun hb10=>?_
 rintro ⟨⟩
 exact Ao Hd.Aa _ _ [] [none] (Ag 300 (o9++[pb hb9,pb hb10])) (by kernel_rfl) (.Em k)
 refine Ad (fun hb11=>?_) fun hb11=>?_
 rintro ⟨⟩
 exact Bt Hd.Aa [fq (Am.Bk l11)] [none,bp (Am.pl n),none] (Ag 300 (o9++[pb hb9,pb hb10,BT (t:=159) (a:=.ptr 2 0) (b:=.zi e0.kind) (v:=.ptr 2 6) (by rw [H2 hb11];kernel_rfl),pk,BT (t:=159) (a:=.ptr 2 0) (b:=.zi e0.kind) (v:=.ptr 2 6) (by rw [H2 hb11];kernel_rfl),pi mi0])) (by kernel_rfl) (k (js 61 j0 [(48,bT),(49,bF),(50,bF),(51,bF),(52,bF)]))
 refine Ad (fun hb12=>?_) fun hb12=>?_
 rintro ⟨⟩
 exact Bt Hd.Aa [fq (Am.Bk l11)] [none,bp (Am.pl n),none] (Ag 300 (o9++[pb hb9,pb hb10,BT (t:=159) (a:=.ptr 2 0) (b:=.zi e0.kind) (v:=.ptr 2 7) (by rw [H2 hb12];kernel_rfl),pk,BT (t:=159) (a:=.ptr 2 0) (b:=.zi e0.kind) (v:=.ptr 2 7) (by rw [H2 hb12];kernel_rfl),pi mi0])) (by kernel_rfl) (k (js 61 j0 [(48,bT),(49,bF),(50,bF),(51,bF),(52,bF)]))
 refine Ad (fun hb13=>?_) fun hb13=>?_
 rintro ⟨⟩
 exact Bt Hd.Aa [fq (Am.Bk l11)] [none,bp (Am.pl n),none] (Ag 300 (o9++[pb hb9,pb hb10,BT (t:=159) (a:=.ptr 2 0) (b:=.zi e0.kind) (v:=.ptr 2 8) (by rw [H2 hb13];kernel_rfl),pk,BT (t:=159) (a:=.ptr 2 0) (b:=.zi e0.kind) (v:=.ptr 2 8) (by rw [H2 hb13];kernel_rfl),pi mi0])) (by kernel_rfl) (k (js 61 j0 [(48,bT),(49,bF),(50,bF),(51,bF),(52,bF)]))
 exact abM
 rintro ⟨w2_6_12,w2_7_12,w2_8_12⟩ jx_12
 dsimp only
 refine Ad (fun hb14=>?_) fun hb14=>?_
 refine Ad (fun hb15=>?_) fun hb15=>?_
 rintro ⟨⟩
 exact Ao Hd.Aa _ _ [] [none] (BJ 300 [pk,pn hb14,pk,pb hb15]) (by kernel_rfl) .body
 refine Ah fun x13 hx13=>?_
 refine Ah ?_
 rintro ⟨y14a,y14b⟩ hy14
 dsimp only
 let o10:LP:=[pk,pn hb14,pk,pb hb15,BT (BQ .lost hx13),pk,AG (Nn (LN hy14) 0)]
 refine Ad (fun hv=>?_) fun hv=>?_
 subst hv
 refine Ah ?_
 rintro ⟨y15a,y15b⟩ hy15
 dsimp only
 rintro ⟨⟩
 exact Ao Hd.Aa _ _ [] [none] (BJ 300 (o10++[PA (Ir hl11),pk,AG (KS (JC hy15) 0)])) (by kernel_rfl) .body
 subst hv
 rintro ⟨⟩
 exact Ao Hd.Aa _ _ [] [none] (BJ 300 o10) (by kernel_rfl) .body
 rintro ⟨⟩
 exact Ao Hd.Aa _ _ [] [none] (BJ 300 [pk,pn hb14]) (by kernel_rfl) .body
 subst hv
 rintro ⟨⟩
 exact Ao Hd.Aa _ _ [] [none] (Ag 300 o8) (by kernel_rfl) .body
 subst hv
 rintro ⟨⟩
 exact Ao Hd.Aa _ _ [] [none] (Ag 300 o7) (by kernel_rfl) .body
 subst hv
 rintro ⟨⟩
 exact Ao Hd.Aa _ _ [] [none] (Ag 300 o6) (by kernel_rfl) .body
 rintro ⟨⟩
 exact Ao Hd.Aa _ _ [] [none] (Ag 300 (o3++[pb hb3,pb hb7])) (by kernel_rfl) .body
 subst hv
 rintro ⟨⟩
 exact Ao Hd.Aa _ _ [] [none] (Ag 300 o1) (by kernel_rfl) .body
end Mo
end Go.Proofs.YtnijkdknnmgoeaaGreat
