/- Part of a proof: see the last text. -/
import Derived.Test.YtnijkdknnmgoeaaGreatCmg
import Derived.Test.YtnijkdknnmgoeaaGreatProg
import Derived.KernelRfl
set_option linter.unusedVariables false
set_option linter.unusedSimpArgs false
set_option linter.defProp false
noncomputable section
namespace Go.Proofs.YtnijkdknnmgoeaaGreat
open AI Go
namespace Hd
def G:Bh:=λ_=>none
def mixed:Tryz.prog.follows .mixedOrders=true:=by kernel_rfl
def CY(g:Nat)(cs:List AV)(h:G g=some cs):Bx cs=true:=by cases h
end Hd
end Go.Proofs.YtnijkdknnmgoeaaGreat
namespace Go.Proofs.YtnijkdknnmgoeaaGreat
open AI Go
namespace Mo
abbrev P:Program:=Tryz.prog
abbrev G:Bh:=Hd.G
abbrev X:W5:=XS P G
variable {G0:Bh}
def C2{i n:Nat}(h:i < n):C3 ((i:Nat):Int) ((n:Nat):Int)=true:=by rw[TI];simp;exact h
def ltF{i n:Nat}(h:n<=i):C3 ((i:Nat):Int) ((n:Nat):Int)=false:=by rw[TI];simp;omega
def Fq{a b:Int}(h:Ba a b=true):a=b:=by rw[RU] at h;simpa using h
def aeM{a b:Int}(h:Ba a b=false):a≠b:=by rw[RU] at h;simpa using h
def TM{a b:Int}(h:C3 a b=true):a < b:=by rw[TI] at h;exact of_decide_eq_true h
def aet{a b:Int}(h:C3 a b=false):b<=a:=by rw[TI] at h;have:=of_decide_eq_false h;omega
def Aa{β:Type}{b:Bool}{t f:Option β}{r:β}{X:Prop}(h1:b=true->t=some r->X)(h2:b=false->f=some r->X):cond b t f=some r->X:=λh=>(atr h).elim (λx=>h1 x.1 x.2) λx=>h2 x.1 x.2
def Ah{β κ:Type}{m:Option κ}{k:κ->Option β}{r:β}{X:Prop}(h1:∀y,m=some y->k y=some r->X):m.bind k=some r->X:=λh=>(pN h).elim λy x=>h1 y x.1 x.2
def Hw{β:Type}{n:Nat}{x:Option β}{r:β}{X:Prop}(h1:n<=100000000->x=some r->X):JB n x=some r->X:=λh=>h1 (ajQ h).1 (ajQ h).2
def ang{β:Type}{r:β}{X:Prop}:(none:Option β)=some r->X:=λh=>nomatch h
def akb{a b:Int}(h:a≠b):Ba a b=false:=by rw[RU];simpa using h
def apK{a b:Int}(h:a < b):C3 a b=true:=by rw[TI];exact decide_eq_true h
def zY{a b:Int}(h:b<=a):C3 a b=false:=by rw[TI];exact decide_eq_false (by omega)
def fq{n m:Nat}{a:AV}(h:plain a=true):FP n m:=⟨a,a,.plain h⟩
def fp{n m:Nat}(a:AV)(h:plain a=true):FP n m:=⟨a,a,.plain h⟩
def fbp{n m:Nat}(a:List AV)(h:Bx a=true):FB n m:=⟨.cells a,.cells a,.cells (.plain h)⟩
def fbu{n m:Nat}(a:List AV)(h:DU n m a=true):FB n m:=⟨.cells a,.cells a,.cells (.under h)⟩
def arL{n:Nat}{l:List AV}(h:Bx l=true):plain (.sl .lost n l)=true:=by simp only[plain,h];rfl
def CI{n:Nat}{l:List AV}(h:Bx l=true):plain (.sl .full n l)=true:=by simp only[plain,h];rfl
def oL{f:Go.Fn}{a l:List AV}(h:Bx a=true)(k:Bx l=true):plain (.fn f a l)=true:=by simp only[plain,h,k];rfl
def B1{n m r sz k:Nat}{l:List AV}(h:decide (r < m)=true)(t:DU n m l=true):under n m (.sl (.row r sz) k l)=true:=by simp only[under,h,t];rfl
def asr{n m:Nat}{f:Go.Fn}{a l:List AV}(h:DU n m a=true)(k:DU n m l=true):under n m (.fn f a l)=true:=by simp only[under,h,k];rfl
def G8(x:Int):List AV:=[.sc (.int .i64 x)]
def Rk(x:ByteArray):List AV:=[.sc (.string x)]
def Vx(x:Bool):List AV:=[.sc (.bool x)]
def BU:MG G8 (rows G8) 1:=⟨λ_=>rfl,λ_=>rfl,λ_=>rfl⟩
def BH:MG Rk (rows Rk) 1:=⟨λ_=>rfl,λ_=>rfl,λ_=>rfl⟩
def K1:MG Vx (rows Vx) 1:=⟨λ_=>rfl,λ_=>rfl,λ_=>rfl⟩
def No(x:(List Int)):List AV:=[.sl .lost x.length (rows G8 x)]
def P5:MG No (rows No) 1:=⟨λ_=>rfl,λ_=>rfl,λx=>Aq (BU.Bk x) rfl⟩
def aki(x:(List Bool)):List AV:=[.sl .lost x.length (rows Vx x)]
def aeS:MG aki (rows aki) 1:=⟨λ_=>rfl,λ_=>rfl,λx=>Aq (K1.Bk x) rfl⟩
structure Pc where
 fr:Int
 Ct:Int
 Iz:Int
def Jc(x:Pc):List AV:=[.sc (.int .i64 x.fr),.sc (.int .i64 x.Ct),.sc (.int .i64 x.Iz)]
def C4:MG Jc (rows Jc) 3:=⟨λ_=>rfl,λ_=>rfl,λx=>(Aq rfl (Aq rfl (Aq rfl rfl)))⟩
structure Fn where
 den:Int
 ps:(List Pc)
def qQ(x:Fn):List AV:=[.sc (.int .i64 x.den),.sl .lost x.ps.length (rows Jc x.ps)]
def OW:MG qQ (rows qQ) 2:=⟨λ_=>rfl,λ_=>rfl,λx=>(Aq rfl (Aq (C4.Bk x.ps) rfl))⟩
structure Nd where
 kind:Int
 name:ByteArray
 unit:ByteArray
 n:Int
 fr:Int
 to:Int
 known:Int
 BX:Fn
 kids:(List Nd)
 Ct:Int
mutual
def ndK:Nd->List AV
 | ⟨kind,name,unit,n,fr,to,known,BX,kids,Ct⟩=>[.sc (.int .i64 kind),.sc (.string name),.sc (.string unit),.sc (.int .i64 n),.sc (.int .i64 fr),.sc (.int .i64 to),.sc (.int .i64 known),.sc (.int .i64 BX.den),.sl .lost BX.ps.length (rows Jc BX.ps),.sl .lost kids.length (EG kids),.sc (.int .i64 Ct)]
def EG:List Nd->List AV
 | []=>[]
 | k::ks=>ndK k++EG ks
end
def Dq(x:Nd):List AV:=[.sc (.int .i64 x.kind),.sc (.string x.name),.sc (.string x.unit),.sc (.int .i64 x.n),.sc (.int .i64 x.fr),.sc (.int .i64 x.to),.sc (.int .i64 x.known),.sc (.int .i64 x.BX.den),.sl .lost x.BX.ps.length (rows Jc x.BX.ps),.sl .lost x.kids.length (EG x.kids),.sc (.int .i64 x.Ct)]
def afU(x:Nd):ndK x=Dq x:=by cases x;rfl
def aaM(l:List Nd):EG l=rows Dq l:=by
 induction l with
 | nil=>rfl
 | cons k ks ih=>rw[HV,EG,ih,afU]
mutual
def aec:∀x:Nd,Bx (ndK x)=true
 | ⟨kind,name,unit,n,fr,to,known,BX,kids,Ct⟩=>by rw[ndK];exact(Aq rfl (Aq rfl (Aq rfl (Aq rfl (Aq rfl (Aq rfl (Aq rfl (Aq rfl (Aq (C4.Bk BX.ps) (Aq (arL (aaQ kids)) (Aq rfl rfl)))))))))))
def aaQ:∀l:List Nd,Bx (EG l)=true
 | []=>rfl
 | k::ks=>by rw[EG];exact agc (aec k) (aaQ ks)
end
def An:MG Dq EG 11:=⟨aaM,λ_=>rfl,λx=>by rw[<- afU];exact aec x⟩
structure Ex where
 op:Int
 n:Int
 unit:ByteArray
 BX:Fn
 kids:(List Ex)
mutual
def exK:Ex->List AV
 | ⟨op,n,unit,BX,kids⟩=>[.sc (.int .i64 op),.sc (.int .i64 n),.sc (.string unit),.sc (.int .i64 BX.den),.sl .lost BX.ps.length (rows Jc BX.ps),.sl .lost kids.length (BD kids)]
def BD:List Ex->List AV
 | []=>[]
 | k::ks=>exK k++BD ks
end
def Fp(x:Ex):List AV:=[.sc (.int .i64 x.op),.sc (.int .i64 x.n),.sc (.string x.unit),.sc (.int .i64 x.BX.den),.sl .lost x.BX.ps.length (rows Jc x.BX.ps),.sl .lost x.kids.length (BD x.kids)]
def afz(x:Ex):exK x=Fp x:=by cases x;rfl
def nM(l:List Ex):BD l=rows Fp l:=by
 induction l with
 | nil=>rfl
 | cons k ks ih=>rw[HV,BD,ih,afz]
mutual
def aer:∀x:Ex,Bx (exK x)=true
 | ⟨op,n,unit,BX,kids⟩=>by rw[exK];exact(Aq rfl (Aq rfl (Aq rfl (Aq rfl (Aq (C4.Bk BX.ps) (Aq (arL (aah kids)) rfl))))))
def aah:∀l:List Ex,Bx (BD l)=true
 | []=>rfl
 | k::ks=>by rw[BD];exact agc (aer k) (aah ks)
end
def AO:MG Fp BD 6:=⟨nM,λ_=>rfl,λx=>by rw[<- afz];exact aer x⟩
structure Ar where
 number:Int
 line:Int
 R9:Int
 fr:Int
 to:Int
 known:Int
 wh:(List Ex)
 un:(List Int)
 am:Ex
def It(x:Ar):List AV:=[.sc (.int .i64 x.number),.sc (.int .i64 x.line),.sc (.int .i64 x.R9),.sc (.int .i64 x.fr),.sc (.int .i64 x.to),.sc (.int .i64 x.known),.sl .lost x.wh.length (BD x.wh),.sl .lost x.un.length (rows G8 x.un),.sc (.int .i64 x.am.op),.sc (.int .i64 x.am.n),.sc (.string x.am.unit),.sc (.int .i64 x.am.BX.den),.sl .lost x.am.BX.ps.length (rows Jc x.am.BX.ps),.sl .lost x.am.kids.length (BD x.am.kids)]
def Cr:MG It (rows It) 14:=⟨λ_=>rfl,λ_=>rfl,λx=>(Aq rfl (Aq rfl (Aq rfl (Aq rfl (Aq rfl (Aq rfl (Aq (AO.Bk x.wh) (Aq (BU.Bk x.un) (agc (AO.pl x.am) rfl)))))))))⟩
structure Dc where
 name:ByteArray
 unit:ByteArray
 WD:Int
def Dk(x:Dc):List AV:=[.sc (.string x.name),.sc (.string x.unit),.sc (.int .i64 x.WD)]
def Bt:MG Dk (rows Dk) 3:=⟨λ_=>rfl,λ_=>rfl,λx=>(Aq rfl (Aq rfl (Aq rfl rfl)))⟩
structure Co where
 facts:(List Dc)
 lines:(List Dc)
 Ap:(List Ar)
def Ko(x:Co):List AV:=[.sl .lost x.facts.length (rows Dk x.facts),.sl .lost x.lines.length (rows Dk x.lines),.sl .lost x.Ap.length (rows It x.Ap)]
def Cj:MG Ko (rows Ko) 3:=⟨λ_=>rfl,λ_=>rfl,λx=>(Aq (Bt.Bk x.facts) (Aq (Bt.Bk x.lines) (Aq (Cr.Bk x.Ap) rfl)))⟩
structure Tk where
 kind:Int
 text:ByteArray
 Ct:Int
structure Dg where
 err:Int
 Ct:Int
def CZ(x:Dg):List AV:=[.sc (.int .i64 x.err),.sc (.int .i64 x.Ct)]
def AP:MG CZ (rows CZ) 2:=⟨λ_=>rfl,λ_=>rfl,λx=>(Aq rfl (Aq rfl rfl))⟩
structure Ps where
 l:(List Tk)
 at_:Int
 end_:Int
 err:Int
 atW:Int
structure Ck where
 nodes:Int
def LH(x:Ck):List AV:=[.sc (.int .i64 x.nodes)]
def tP:MG LH (rows LH) 1:=⟨λ_=>rfl,λ_=>rfl,λx=>(Aq rfl rfl)⟩
structure Cq where
 src:Nd
 E2:(List Dg)
def QX(r0:Nat)(x:Cq):List AV:=[.sc (.int .i64 x.src.kind),.sc (.string x.src.name),.sc (.string x.src.unit),.sc (.int .i64 x.src.n),.sc (.int .i64 x.src.fr),.sc (.int .i64 x.src.to),.sc (.int .i64 x.src.known),.sc (.int .i64 x.src.BX.den),.sl .lost x.src.BX.ps.length (rows Jc x.src.BX.ps),.sl .lost x.src.kids.length (EG x.src.kids),.sc (.int .i64 x.src.Ct),.sl (.row r0 2) x.E2.length (rows CZ x.E2)]
def aep{k j:Nat}{ρ σ:Nat->Nat}{r0:Nat}(x:Cq)(h0:r0 < j):V4 k j ρ σ (QX r0 x) (QX (σ r0) x):=(.cons (.pl rfl) (.cons (.pl rfl) (.cons (.pl rfl) (.cons (.pl rfl) (.cons (.pl rfl) (.cons (.pl rfl) (.cons (.pl rfl) (.cons (.pl rfl) (.cons (.pl (C4.Bk x.src.BX.ps)) (.cons (.pl (An.Bk x.src.kids)) (.cons (.pl rfl) (.cons (.row h0 (AP.Aq x.E2)) .nil))))))))))))
def Lw{n m:Nat}{r0:Nat}{x:Cq}(h0:decide (r0 < m)=true):DU n m (QX r0 x)=true:=(As (Ad _ _ rfl) (As (Ad _ _ rfl) (As (Ad _ _ rfl) (As (Ad _ _ rfl) (As (Ad _ _ rfl) (As (Ad _ _ rfl) (As (Ad _ _ rfl) (As (Ad _ _ rfl) (As (Ad _ _ (C4.Bk x.src.BX.ps)) (As (Ad _ _ (An.Bk x.src.kids)) (As (Ad _ _ rfl) (As (B1 h0 (Af _ _ (AP.Aq x.E2))) rfl))))))))))))
structure Ft where
 Ae:Co
 lines:(Mm Int Int)
 nodes:Int
def Q0(r0:Nat)(x:Ft):List AV:=[.sl .lost x.Ae.facts.length (rows Dk x.Ae.facts),.sl .lost x.Ae.lines.length (rows Dk x.Ae.lines),.sl .lost x.Ae.Ap.length (rows It x.Ae.Ap),.mp r0,.sc (.int .i64 x.nodes)]
def adJ{k j:Nat}{ρ σ:Nat->Nat}{r0:Nat}(x:Ft)(h0:r0 < k):V4 k j ρ σ (Q0 r0 x) (Q0 (ρ r0) x):=(.cons (.pl (Bt.Bk x.Ae.facts)) (.cons (.pl (Bt.Bk x.Ae.lines)) (.cons (.pl (Cr.Bk x.Ae.Ap)) (.cons (.mp h0) (.cons (.pl rfl) .nil)))))
def GW{n m:Nat}{r0:Nat}{x:Ft}(h0:decide (r0 < n)=true):DU n m (Q0 r0 x)=true:=(As (Ad _ _ (Bt.Bk x.Ae.facts)) (As (Ad _ _ (Bt.Bk x.Ae.lines)) (As (Ad _ _ (Cr.Bk x.Ae.Ap)) (As h0 (As (Ad _ _ rfl) rfl)))))
structure Sc where
 facts:(Mm ByteArray ByteArray)
 lines:(Mm ByteArray ByteArray)
 Ao:(Mm Int ByteArray)
structure Tr where
 Ae:Co
 facts:(Mm ByteArray Int)
 lines:(Mm ByteArray Int)
 Ao:(Mm Int Int)
def gJ(r0 r1 r2 r3 r4 r5:Nat)(x:Tr):List AV:=[.sl (.row r0 3) x.Ae.facts.length (rows Dk x.Ae.facts),.sl (.row r1 3) x.Ae.lines.length (rows Dk x.Ae.lines),.sl (.row r2 14) x.Ae.Ap.length (rows It x.Ae.Ap),.mp r3,.mp r4,.mp r5]
def wI{k j:Nat}{ρ σ:Nat->Nat}{r0 r1 r2 r3 r4 r5:Nat}(x:Tr)(h0:r0 < j)(h1:r1 < j)(h2:r2 < j)(h3:r3 < k)(h4:r4 < k)(h5:r5 < k):V4 k j ρ σ (gJ r0 r1 r2 r3 r4 r5 x) (gJ (σ r0) (σ r1) (σ r2) (ρ r3) (ρ r4) (ρ r5) x):=(.cons (.row h0 (Bt.Aq x.Ae.facts)) (.cons (.row h1 (Bt.Aq x.Ae.lines)) (.cons (.row h2 (Cr.Aq x.Ae.Ap)) (.cons (.mp h3) (.cons (.mp h4) (.cons (.mp h5) .nil))))))
def Se{n m:Nat}{r0 r1 r2 r3 r4 r5:Nat}{x:Tr}(h0:decide (r0 < m)=true)(h1:decide (r1 < m)=true)(h2:decide (r2 < m)=true)(h3:decide (r3 < n)=true)(h4:decide (r4 < n)=true)(h5:decide (r5 < n)=true):DU n m (gJ r0 r1 r2 r3 r4 r5 x)=true:=(As (B1 h0 (Af _ _ (Bt.Aq x.Ae.facts))) (As (B1 h1 (Af _ _ (Bt.Aq x.Ae.lines))) (As (B1 h2 (Af _ _ (Cr.Aq x.Ae.Ap))) (As h3 (As h4 (As h5 rfl))))))
def u22:P.underlying 22=some (.slice 138):=by kernel_rfl
def arw:(P.info? 138).map (·.size)=some 3:=by kernel_rfl
def i138:(P.info? 138).map (λi=>(i.size,i.bytes,i.zero.map (·.cells.size)))=some (3,24,some 3):=by kernel_rfl
def Yx(own:Own){l:List Pc}{i:Nat}{x:Pc}(h:l[i]?=some x):BW P 22 (.sl own l.length (rows Jc l)) (.sc (.int .i64 ((i:Nat):Int)))=some (.el (Jc x++rows Jc (l.drop (i+1)))):=C4.ix u22 arw own h
def lP(own:Own){l:List Pc}{z:Int}{x:Pc}(h:Cn l z=some x):BW P 22 (.sl own l.length (rows Jc l)) (.sc (.int .i64 z))=some (.el (Jc x++rows Jc (l.drop (z.toNat+1)))):=C4.ixz u22 arw own h
def ajJ(own:Own)(l m:List Pc){o:Own}(hm:¬m.length=0)(hlen:l.length+m.length<=100000000):Cd.ok P G0 (.Z2 22 22 own l.length (rows Jc l) (.sl o m.length (rows Jc m)) 3 (l++m).length (rows Jc (l++m))):=C4.Z2 u22 u22 i138 (by decide) (by decide) own l m (Wn.refl _) rfl (C4.aeI (λ_=>rfl) m) hm hlen
def aoT(own:Own)(l m:List Pc){o:Own}(s:AS)(hm:m.length=0)(hlen:l.length+m.length<=100000000):Cd.ok P G0 (.bV s 22 22 (.sl own l.length (rows Jc l)) (.sl o m.length (rows Jc m)) (.sl own l.length (rows Jc l)) s):=C4.ga u22 u22 i138 (by decide) (by decide) own l m s hm hlen
def u25:P.underlying 25=some (.slice 27):=by kernel_rfl
def s27:(P.info? 27).map (·.size)=some 11:=by kernel_rfl
def B0(own:Own){l:List Nd}{i:Nat}{x:Nd}(h:l[i]?=some x):BW P 25 (.sl own l.length (EG l)) (.sc (.int .i64 ((i:Nat):Int)))=some (.el (Dq x++EG (l.drop (i+1)))):=An.ix u25 s27 own h
def mL(own:Own){l:List Nd}{z:Int}{x:Nd}(h:Cn l z=some x):BW P 25 (.sl own l.length (EG l)) (.sc (.int .i64 z))=some (.el (Dq x++EG (l.drop (z.toNat+1)))):=An.ixz u25 s27 own h
def u28:P.underlying 28=some (.slice 57):=by kernel_rfl
def s57:(P.info? 57).map (·.size)=some 3:=by kernel_rfl
def i57:(P.info? 57).map (λi=>(i.size,i.bytes,i.zero.map (·.cells.size)))=some (3,40,some 3):=by kernel_rfl
def X3(own:Own){l:List Dc}{i:Nat}{x:Dc}(h:l[i]?=some x):BW P 28 (.sl own l.length (rows Dk l)) (.sc (.int .i64 ((i:Nat):Int)))=some (.el (Dk x++rows Dk (l.drop (i+1)))):=Bt.ix u28 s57 own h
def RC(own:Own){l:List Dc}{z:Int}{x:Dc}(h:Cn l z=some x):BW P 28 (.sl own l.length (rows Dk l)) (.sc (.int .i64 z))=some (.el (Dk x++rows Dk (l.drop (z.toNat+1)))):=Bt.ixz u28 s57 own h
def aay(own:Own)(l m:List Dc){o:Own}{n:Nat}{ns:List AV}(hn:Wn ns (rows Dk m))(uH:n=m.length)(ho:ns.all one=true)(hm:m.length≠0)(hlen:l.length+m.length<=100000000):Cd.ok P G0 (.Z2 28 28 own l.length (rows Dk l) (.sl o n ns) 3 (l++m).length (rows Dk (l++m))):=Bt.Z2 u28 u28 i57 (by decide) (by decide) own l m hn uH ho hm hlen
def u29:P.underlying 29=some (.slice 62):=by kernel_rfl
def s62:(P.info? 62).map (·.size)=some 14:=by kernel_rfl
def i62:(P.info? 62).map (λi=>(i.size,i.bytes,i.zero.map (·.cells.size)))=some (14,184,some 14):=by kernel_rfl
def bD(own:Own){l:List Ar}{i:Nat}{x:Ar}(h:l[i]?=some x):BW P 29 (.sl own l.length (rows It l)) (.sc (.int .i64 ((i:Nat):Int)))=some (.el (It x++rows It (l.drop (i+1)))):=Cr.ix u29 s62 own h
def PI(own:Own){l:List Ar}{z:Int}{x:Ar}(h:Cn l z=some x):BW P 29 (.sl own l.length (rows It l)) (.sc (.int .i64 z))=some (.el (It x++rows It (l.drop (z.toNat+1)))):=Cr.ixz u29 s62 own h
def ajV(own:Own)(l m:List Ar){o:Own}{n:Nat}{ns:List AV}(hn:Wn ns (rows It m))(uH:n=m.length)(ho:ns.all one=true)(hm:m.length≠0)(hlen:l.length+m.length<=100000000):Cd.ok P G0 (.Z2 29 29 own l.length (rows It l) (.sl o n ns) 14 (l++m).length (rows It (l++m))):=Cr.Z2 u29 u29 i62 (by decide) (by decide) own l m hn uH ho hm hlen
def u35:P.underlying 35=some (.slice 52):=by kernel_rfl
def s52:(P.info? 52).map (·.size)=some 2:=by kernel_rfl
def i52:(P.info? 52).map (λi=>(i.size,i.bytes,i.zero.map (·.cells.size)))=some (2,16,some 2):=by kernel_rfl
def ajv(own:Own){l:List Dg}{i:Nat}{x:Dg}(h:l[i]?=some x):BW P 35 (.sl own l.length (rows CZ l)) (.sc (.int .i64 ((i:Nat):Int)))=some (.el (CZ x++rows CZ (l.drop (i+1)))):=AP.ix u35 s52 own h
def rE(own:Own)(l m:List Dg){o:Own}{n:Nat}{ns:List AV}(hn:Wn ns (rows CZ m))(uH:n=m.length)(ho:ns.all one=true)(hm:m.length≠0)(hlen:l.length+m.length<=100000000):Cd.ok P G0 (.Z2 35 35 own l.length (rows CZ l) (.sl o n ns) 2 (l++m).length (rows CZ (l++m))):=AP.Z2 u35 u35 i52 (by decide) (by decide) own l m hn uH ho hm hlen
def apW(own:Own)(l m:List Dg){o:Own}(hm:¬m.length=0)(hlen:l.length+m.length<=100000000):Cd.ok P G0 (.Z2 35 35 own l.length (rows CZ l) (.sl o m.length (rows CZ m)) 2 (l++m).length (rows CZ (l++m))):=AP.Z2 u35 u35 i52 (by decide) (by decide) own l m (Wn.refl _) rfl (AP.aeI (λ_=>rfl) m) hm hlen
def atD(own:Own)(l m:List Dg){o:Own}(s:AS)(hm:m.length=0)(hlen:l.length+m.length<=100000000):Cd.ok P G0 (.bV s 35 35 (.sl own l.length (rows CZ l)) (.sl o m.length (rows CZ m)) (.sl own l.length (rows CZ l)) s):=AP.ga u35 u35 i52 (by decide) (by decide) own l m s hm hlen
def u40:P.underlying 40=some (.slice 3):=by kernel_rfl
def s3:(P.info? 3).map (·.size)=some 1:=by kernel_rfl
def i3:(P.info? 3).map (λi=>(i.size,i.bytes,i.zero.map (·.cells.size)))=some (1,8,some 1):=by kernel_rfl
def XQ(own:Own){l:List Int}{i:Nat}{x:Int}(h:l[i]?=some x):BW P 40 (.sl own l.length (rows G8 l)) (.sc (.int .i64 ((i:Nat):Int)))=some (.el (G8 x++rows G8 (l.drop (i+1)))):=BU.ix u40 s3 own h
def aqD(own:Own){l:List Int}{z:Int}{x:Int}(h:Cn l z=some x):BW P 40 (.sl own l.length (rows G8 l)) (.sc (.int .i64 z))=some (.el (G8 x++rows G8 (l.drop (z.toNat+1)))):=BU.ixz u40 s3 own h
def Z4(own:Own)(l m:List Int){o:Own}{n:Nat}{ns:List AV}(hn:Wn ns (rows G8 m))(uH:n=m.length)(ho:ns.all one=true)(hm:m.length≠0)(hlen:l.length+m.length<=100000000):Cd.ok P G0 (.Z2 40 40 own l.length (rows G8 l) (.sl o n ns) 1 (l++m).length (rows G8 (l++m))):=BU.Z2 u40 u40 i3 (by decide) (by decide) own l m hn uH ho hm hlen
def u58:P.underlying 58=some (.slice 60):=by kernel_rfl
def s60:(P.info? 60).map (·.size)=some 6:=by kernel_rfl
def i60:(P.info? 60).map (λi=>(i.size,i.bytes,i.zero.map (·.cells.size)))=some (6,88,some 6):=by kernel_rfl
def Ep(own:Own){l:List Ex}{i:Nat}{x:Ex}(h:l[i]?=some x):BW P 58 (.sl own l.length (BD l)) (.sc (.int .i64 ((i:Nat):Int)))=some (.el (Fp x++BD (l.drop (i+1)))):=AO.ix u58 s60 own h
def ap9(own:Own){l:List Ex}{z:Int}{x:Ex}(h:Cn l z=some x):BW P 58 (.sl own l.length (BD l)) (.sc (.int .i64 z))=some (.el (Fp x++BD (l.drop (z.toNat+1)))):=AO.ixz u58 s60 own h
def hN(own:Own)(l m:List Ex){o:Own}{n:Nat}{ns:List AV}(hn:Wn ns (BD m))(uH:n=m.length)(ho:ns.all one=true)(hm:m.length≠0)(hlen:l.length+m.length<=100000000):Cd.ok P G0 (.Z2 58 58 own l.length (BD l) (.sl o n ns) 6 (l++m).length (BD (l++m))):=AO.Z2 u58 u58 i60 (by decide) (by decide) own l m hn uH ho hm hlen
def u69:P.underlying 69=some (.slice 40):=by kernel_rfl
def s40:(P.info? 40).map (·.size)=some 1:=by kernel_rfl
def u71:P.underlying 71=some (.slice 4):=by kernel_rfl
def s4:(P.info? 4).map (·.size)=some 1:=by kernel_rfl
def i4:(P.info? 4).map (λi=>(i.size,i.bytes,i.zero.map (·.cells.size)))=some (1,1,some 1):=by kernel_rfl
def ajc(own:Own){l:List Bool}{i:Nat}{x:Bool}(h:l[i]?=some x):BW P 71 (.sl own l.length (rows Vx l)) (.sc (.int .i64 ((i:Nat):Int)))=some (.el (Vx x++rows Vx (l.drop (i+1)))):=K1.ix u71 s4 own h
def aqy(own:Own)(l m:List Bool){o:Own}{n:Nat}{ns:List AV}(hn:Wn ns (rows Vx m))(uH:n=m.length)(ho:ns.all one=true)(hm:m.length≠0)(hlen:l.length+m.length<=100000000):Cd.ok P G0 (.Z2 71 71 own l.length (rows Vx l) (.sl o n ns) 1 (l++m).length (rows Vx (l++m))):=K1.Z2 u71 u71 i4 (by decide) (by decide) own l m hn uH ho hm hlen
def u91:P.underlying 91=some (.slice 71):=by kernel_rfl
def s71:(P.info? 71).map (·.size)=some 1:=by kernel_rfl
def ace:P.underlying 141=some (.slice 9):=by kernel_rfl
def s9:(P.info? 9).map (·.size)=some 1:=by kernel_rfl
def i9:(P.info? 9).map (λi=>(i.size,i.bytes,i.zero.map (·.cells.size)))=some (1,16,some 1):=by kernel_rfl
def QI(own:Own){l:List ByteArray}{i:Nat}{x:ByteArray}(h:l[i]?=some x):BW P 141 (.sl own l.length (rows Rk l)) (.sc (.int .i64 ((i:Nat):Int)))=some (.el (Rk x++rows Rk (l.drop (i+1)))):=BH.ix ace s9 own h
def wC(own:Own)(l m:List ByteArray){o:Own}{n:Nat}{ns:List AV}(hn:Wn ns (rows Rk m))(uH:n=m.length)(ho:ns.all one=true)(hm:m.length≠0)(hlen:l.length+m.length<=100000000):Cd.ok P G0 (.Z2 141 141 own l.length (rows Rk l) (.sl o n ns) 1 (l++m).length (rows Rk (l++m))):=BH.Z2 ace ace i9 (by decide) (by decide) own l m hn uH ho hm hlen
def apc{id n i:Nat}(h:i < n):BW P 69 (.G2 id 0 n) (.sc (.int .i64 ((i:Nat):Int)))=some (.ptr id (0+i*1)):=P5.ixm u69 s40 h
def alp{id n i:Nat}{z:Int}(h:K5 n z=some i):BW P 69 (.G2 id 0 n) (.sc (.int .i64 z))=some (.ptr id (0+i*1)):=P5.aip u69 s40 h
def aqU{l:List (List Int)}{i:Nat}{x:(List Int)}(h:l[i]?=some x):Cd.ok P G0 (.ldB (.cells (rows No l)) 40 (0+i*1) (.sl .lost x.length ((rows G8 x)))):=P5.ld1 (by kernel_rfl) s40 h rfl
def aqj{l:List (List Int)}{i:Nat}{x:(List Int)}(h:l[i]?=some x)(y:(List Int)):Cd.ok P G0 (.stB (.cells (rows No l)) 40 (0+i*1) (.sl .lost y.length ((rows G8 y))) (.cells (rows No (l.set i y)))):=P5.st s40 h y rfl rfl
def aoX{n:Nat}(hn:n<=16777216):Cd.ok P G0 (.mkB 69 (.sc (.int .i64 ((n:Nat):Int))) (.sc (.int .i64 ((n:Nat):Int))) n (.cells (rows No (List.replicate n [])))):=P5.made u69 (by kernel_rfl) (by decide) hn
def aem{id n i:Nat}(h:i < n):BW P 71 (.G2 id 0 n) (.sc (.int .i64 ((i:Nat):Int)))=some (.ptr id (0+i*1)):=K1.ixm u71 s4 h
def alE{id n i:Nat}{z:Int}(h:K5 n z=some i):BW P 71 (.G2 id 0 n) (.sc (.int .i64 z))=some (.ptr id (0+i*1)):=K1.aip u71 s4 h
def afs{l:List Bool}{i:Nat}{x:Bool}(h:l[i]?=some x):Cd.ok P G0 (.ldB (.cells (rows Vx l)) 4 (0+i*1) (.sc (.bool x))):=K1.ld1 (by kernel_rfl) s4 h rfl
def aqW{l:List Bool}{i:Nat}{x:Bool}(h:l[i]?=some x)(y:Bool):Cd.ok P G0 (.stB (.cells (rows Vx l)) 4 (0+i*1) (.sc (.bool y)) (.cells (rows Vx (l.set i y)))):=K1.st s4 h y rfl rfl
def aqh{n:Nat}(hn:n<=16777216):Cd.ok P G0 (.mkB 71 (.sc (.int .i64 ((n:Nat):Int))) (.sc (.int .i64 ((n:Nat):Int))) n (.cells (rows Vx (List.replicate n false)))):=K1.made u71 (by kernel_rfl) (by decide) hn
def ZG{id n i:Nat}{z:Int}(h:K5 n z=some i):BW P 91 (.G2 id 0 n) (.sc (.int .i64 z))=some (.ptr id (0+i*1)):=aeS.aip u91 s71 h
def yN{id n i:Nat}(h:i < n):BW P 141 (.G2 id 0 n) (.sc (.int .i64 ((i:Nat):Int)))=some (.ptr id (0+i*1)):=BH.ixm ace s9 h
def Vf{id n i:Nat}{z:Int}(h:K5 n z=some i):BW P 141 (.G2 id 0 n) (.sc (.int .i64 z))=some (.ptr id (0+i*1)):=BH.aip ace s9 h
def U9{l:List ByteArray}{i:Nat}{x:ByteArray}(h:l[i]?=some x):Cd.ok P G0 (.ldB (.cells (rows Rk l)) 9 (0+i*1) (.sc (.string x))):=BH.ld1 (by kernel_rfl) s9 h rfl
def aoK{l:List ByteArray}{i:Nat}{x:ByteArray}(h:l[i]?=some x)(y:ByteArray):Cd.ok P G0 (.stB (.cells (rows Rk l)) 9 (0+i*1) (.sc (.string y)) (.cells (rows Rk (l.set i y)))):=BH.st s9 h y rfl rfl
def alB{n:Nat}(hn:n<=16777216):Cd.ok P G0 (.mkB 141 (.sc (.int .i64 ((n:Nat):Int))) (.sc (.int .i64 ((n:Nat):Int))) n (.cells (rows Rk (List.replicate n ByteArray.empty)))):=BH.made ace (by kernel_rfl) (by decide) hn
def alo(x:Int):Int:=IntKind.i64.wrap (0 - x)
def aoB(x y:Int):Int:=IntKind.i64.wrap (x.tdiv y)
def anI(x y:Int):Int:=x.tmod y
def ade(x y:Int):Option Int:=if y=0 then none else some (aoB x y)
def jF(x y:Int):Option Int:=if y=0 then none else some (anI x y)
def Ot{α:Type}(s:List α)(l h:Int):Option (List α):=if 0<=l/\l<=h/\h<=((s.length:Nat):Int) then some ((s.drop l.toNat).take (h.toNat - l.toNat)) else none
def oQ(z:Int)(h:0<=z):Su (.sc (.int .i64 z))=some z.toNat:=by unfold Su;simp[h]
def agR{a b c:Int}(h:ade a b=some c)(x y:Operand):L2 P .quo 3 x y (.sc (.int .i64 a)) (.sc (.int .i64 b))=some (.sc (.int .i64 c)):=by
 unfold ade at h;split at h;cases h;rename_i hb;cases h;simp[L2,VW,Ym,eqGuard,binOp,Op.intDiv,hb,AI.pv,jD,scalar,aoB,Bind.bind,Sem.bind,Pure.pure]
def pX{a b c:Int}(h:jF a b=some c)(x y:Operand):L2 P .rem 3 x y (.sc (.int .i64 a)) (.sc (.int .i64 b))=some (.sc (.int .i64 c)):=by
 unfold jF at h;split at h;cases h;rename_i hb;cases h;simp[L2,VW,Ym,eqGuard,binOp,Op.intDiv,hb,AI.pv,jD,scalar,anI,Bind.bind,Sem.bind,Pure.pure]
def us9:P.underlying 9=some .string:=by kernel_rfl
def P3{s:ByteArray}{i:Nat}{c:UInt8}(h:s.data.toList[i]?=some c):Oq P 9 (.sc (.string s)) (.sc (.int .i64 ((i:Nat):Int)))=some (.sc (.int .u8 ((c.toNat:Nat):Int))):=by
 unfold Oq;rw[us9,oQ _ (by omega)];simp only[Int.toNat_natCast,h]
def ahU(l h:Nat){s:List Nd}(h1:l<=h)(h2:h<=s.length)(lo hi:Option AV)(e1:MH 0 lo=some l)(e2:MH s.length hi=some h):KL P 25 (.sl .lost s.length (EG s)) lo hi none=some (.sl .lost ((s.drop l).take (h - l)).length (EG ((s.drop l).take (h - l)))):=An.sub u25 s27 l h h1 h2 lo hi e1 e2
def Mg{s v:List Nd}{l:Int}(e:Ot s l ((s.length:Nat):Int)=some v):KL P 25 (.sl .lost s.length (EG s)) (some (.sc (.int .i64 l))) (none) none=some (.sl .lost v.length (EG v)):=by
 unfold Ot at e;split at e;rename_i hc;cases e;exact ahU _ _ (by omega) (by omega) _ _ (oQ l hc.1) rfl;cases e
def amy(own:Own){s:List Dg}{h:Int}(e:Ba h ((s.length:Nat):Int)=true):KL P 35 (.sl own s.length (rows CZ s)) none (some (.sc (.int .i64 h))) none=some (.sl own s.length (rows CZ s)):=by
 have e:=Fq e;exact AP.arZ u35 s52 own _ ((oQ h (by omega)).trans (congrArg some (by omega)))
def amp(own:Own){s v:List Dg}{h:Int}(e:Ot s 0 h=some v)(hn:Ba h ((s.length:Nat):Int)=false):KL P 35 (.sl own s.length (rows CZ s)) none (some (.sc (.int .i64 h))) none=some (.sl .lost v.length (rows CZ v)):=by
 have hn:=aeM hn;unfold Ot at e;split at e;rename_i hc;cases e;exact AP.as3 u35 s52 own _ _ (by omega) (by omega) _ _ rfl (oQ h (by omega));cases e
def Qf(x y:Pc):Bool:=x.fr == y.fr&&(x.Ct == y.Ct&&(x.Iz == y.Iz))
def zI(x y:Pc):aM [.int .i64 x.fr,.int .i64 x.Ct,.int .i64 x.Iz] [.int .i64 y.fr,.int .i64 y.Ct,.int .i64 y.Iz]=some (Qf x y):=by
 simp only[aM,fEq,Qf,if_true,Option.bind_some];cases (x.fr == y.fr)<;>cases (x.Ct == y.Ct)<;>cases (x.Iz == y.Iz)<;>rfl
def ag1:Flat P 138 [1,1,1]:=⟨by kernel_rfl,by kernel_rfl,by kernel_rfl,by kernel_rfl,by kernel_rfl,by kernel_rfl⟩
def oF{x y:Pc}{b:Bool}(h:Qf x y=b)(ox oy:Operand):L2 P .neq 138 ox oy (.agg (Jc x)) (.agg (Jc y))=some (.sc (.bool (!b))):=by
 subst h;exact(ag1.bin (us:=[.int .i64 x.fr,.int .i64 x.Ct,.int .i64 x.Iz]) (vs:=[.int .i64 y.fr,.int .i64 y.Ct,.int .i64 y.Iz]) ⟨.inl ⟨_,rfl,rfl⟩,⟨.inl ⟨_,rfl,rfl⟩,⟨.inl ⟨_,rfl,rfl⟩,trivial⟩⟩⟩ ⟨.inl ⟨_,rfl,rfl⟩,⟨.inl ⟨_,rfl,rfl⟩,⟨.inl ⟨_,rfl,rfl⟩,trivial⟩⟩⟩ (zI x y) ox oy).2
def Zr(x y:Dc):Bool:=x.name == y.name&&(x.unit == y.unit&&(x.WD == y.WD))
def yU(x y:Dc):aM [.string x.name,.string x.unit,.int .i64 x.WD] [.string y.name,.string y.unit,.int .i64 y.WD]=some (Zr x y):=by
 simp only[aM,fEq,Zr,if_true,Option.bind_some];cases (x.name == y.name)<;>cases (x.unit == y.unit)<;>cases (x.WD == y.WD)<;>rfl
def al2:Flat P 57 [2,2,1]:=⟨by kernel_rfl,by kernel_rfl,by kernel_rfl,by kernel_rfl,by kernel_rfl,by kernel_rfl⟩
def ajX{x y:Dc}{b:Bool}(h:Zr x y=b)(ox oy:Operand):L2 P .neq 57 ox oy (.agg (Dk x)) (.agg (Dk y))=some (.sc (.bool (!b))):=by
 subst h;exact(al2.bin (us:=[.string x.name,.string x.unit,.int .i64 x.WD]) (vs:=[.string y.name,.string y.unit,.int .i64 y.WD]) ⟨.inr ⟨_,rfl,rfl⟩,⟨.inr ⟨_,rfl,rfl⟩,⟨.inl ⟨_,rfl,rfl⟩,trivial⟩⟩⟩ ⟨.inr ⟨_,rfl,rfl⟩,⟨.inr ⟨_,rfl,rfl⟩,⟨.inl ⟨_,rfl,rfl⟩,trivial⟩⟩⟩ (yU x y) ox oy).2
def Y4(x y:Dg):Bool:=x.err == y.err&&(x.Ct == y.Ct)
def zB(x y:Dg):aM [.int .i64 x.err,.int .i64 x.Ct] [.int .i64 y.err,.int .i64 y.Ct]=some (Y4 x y):=by
 simp only[aM,fEq,Y4,if_true,Option.bind_some];cases (x.err == y.err)<;>cases (x.Ct == y.Ct)<;>rfl
def amC:Flat P 52 [1,1]:=⟨by kernel_rfl,by kernel_rfl,by kernel_rfl,by kernel_rfl,by kernel_rfl,by kernel_rfl⟩
def ajY{x y:Dg}{b:Bool}(h:Y4 x y=b)(ox oy:Operand):L2 P .neq 52 ox oy (.agg (CZ x)) (.agg (CZ y))=some (.sc (.bool (!b))):=by
 subst h;exact(amC.bin (us:=[.int .i64 x.err,.int .i64 x.Ct]) (vs:=[.int .i64 y.err,.int .i64 y.Ct]) ⟨.inl ⟨_,rfl,rfl⟩,⟨.inl ⟨_,rfl,rfl⟩,trivial⟩⟩ ⟨.inl ⟨_,rfl,rfl⟩,⟨.inl ⟨_,rfl,rfl⟩,trivial⟩⟩ (zB x y) ox oy).2
def Fu(m:Mm ByteArray Int):Bb:=mB (λn=>.string n) (λn=>.sc (.int .i64 n)) m
def Fk{n l:Nat}(m:Mm ByteArray Int):FO n l:=some ⟨Fu m,Fu m,Mj λ_=>rfl⟩
def aq3:P.underlying 82=some (.map 9 3):=by kernel_rfl
def aro:P.underlying 9=some (.string):=by kernel_rfl
def aso:JF P 3=some (.sc (.int .i64 0)):=by kernel_rfl
def alU(m:Mm ByteArray Int)(k:ByteArray):Cd.ok P G0 (.uZ (Fu m) 82 (.sc (.string k)) false (.sc (.int .i64 ((m.get k).getD 0)))):=lZ (vv:=(λn=>.sc (.int .i64 n))) aq3 aro yD (z:=0) aso m k
def ap3(m:Mm ByteArray Int)(k:ByteArray)(v:Int):Cd.ok P G0 (.msB (Fu m) 82 (.sc (.string k)) (.sc (.int .i64 v)) (Fu (m.set k v))):=lI (vv:=(λn=>.sc (.int .i64 n))) aq3 aro yD m k v
def Ff(m:Mm Int Int):Bb:=mB (λn=>.int .i64 n) (λn=>.sc (.int .i64 n)) m
def BL{n l:Nat}(m:Mm Int Int):FO n l:=some ⟨Ff m,Ff m,Mj λ_=>rfl⟩
def amY:P.underlying 83=some (.map 3 3):=by kernel_rfl
def akS:P.underlying 3=some ((.int .i64)):=by kernel_rfl
def ao3:JF P 3=some (.sc (.int .i64 0)):=by kernel_rfl
def agI(m:Mm Int Int)(k:Int):Cd.ok P G0 (.uZ (Ff m) 83 (.sc (.int .i64 k)) false (.sc (.int .i64 ((m.get k).getD 0)))):=lZ (vv:=(λn=>.sc (.int .i64 n))) amY akS uM (z:=0) ao3 m k
def aJ(m:Mm Int Int)(k:Int){b:Bool}(h:(m.get k).isSome=b):Cd.ok P G0 (.uZ (Ff m) 83 (.sc (.int .i64 k)) true (.Bj [.sc (.int .i64 ((m.get k).getD 0)),.sc (.bool b)])):=xH (vv:=(λn=>.sc (.int .i64 n))) amY akS uM (z:=0) ao3 m k h
def ahn(m:Mm Int Int)(k:Int)(v:Int):Cd.ok P G0 (.msB (Ff m) 83 (.sc (.int .i64 k)) (.sc (.int .i64 v)) (Ff (m.set k v))):=lI (vv:=(λn=>.sc (.int .i64 n))) amY akS uM m k v
def LD(m:Mm Int Bool):Bb:=mB (λn=>.int .i64 n) (λn=>.sc (.bool n)) m
def V9{n l:Nat}(m:Mm Int Bool):FO n l:=some ⟨LD m,LD m,Mj λ_=>rfl⟩
def ap0:P.underlying 89=some (.map 3 4):=by kernel_rfl
def aqw:P.underlying 3=some ((.int .i64)):=by kernel_rfl
def atm:JF P 4=some (.sc (.bool false)):=by kernel_rfl
def kD(m:Mm Int Bool)(k:Int){b:Bool}(h:(m.get k).getD false=b):Cd.ok P G0 (.uZ (LD m) 89 (.sc (.int .i64 k)) false (.sc (.bool b))):=by
 subst h;exact lZ (vv:=(λn=>.sc (.bool n))) ap0 aqw uM (z:=false) atm m k
def alT(m:Mm Int Bool)(k:Int)(v:Bool):Cd.ok P G0 (.msB (LD m) 89 (.sc (.int .i64 k)) (.sc (.bool v)) (LD (m.set k v))):=lI (vv:=(λn=>.sc (.bool n))) ap0 aqw uM m k v
def D2(m:Mm ByteArray ByteArray):Bb:=mB (λn=>.string n) (λn=>.sc (.string n)) m
def Bs{n l:Nat}(m:Mm ByteArray ByteArray):FO n l:=some ⟨D2 m,D2 m,Mj λ_=>rfl⟩
def adG:P.underlying 116=some (.map 9 9):=by kernel_rfl
def acQ:P.underlying 9=some (.string):=by kernel_rfl
def akq:JF P 9=some (.sc (.string ByteArray.empty)):=by kernel_rfl
def aa2(m:Mm ByteArray ByteArray)(k:ByteArray):Cd.ok P G0 (.uZ (D2 m) 116 (.sc (.string k)) false (.sc (.string ((m.get k).getD ByteArray.empty)))):=lZ (vv:=(λn=>.sc (.string n))) adG acQ yD (z:=ByteArray.empty) akq m k
def Wm(m:Mm ByteArray ByteArray)(k:ByteArray){b:Bool}(h:(m.get k).isSome=b):Cd.ok P G0 (.uZ (D2 m) 116 (.sc (.string k)) true (.Bj [.sc (.string ((m.get k).getD ByteArray.empty)),.sc (.bool b)])):=xH (vv:=(λn=>.sc (.string n))) adG acQ yD (z:=ByteArray.empty) akq m k h
def ajP(m:Mm ByteArray ByteArray)(k:ByteArray)(v:ByteArray):Cd.ok P G0 (.msB (D2 m) 116 (.sc (.string k)) (.sc (.string v)) (D2 (m.set k v))):=lI (vv:=(λn=>.sc (.string n))) adG acQ yD m k v
def JM(m:Mm Int ByteArray):Bb:=mB (λn=>.int .i64 n) (λn=>.sc (.string n)) m
def Dm{n l:Nat}(m:Mm Int ByteArray):FO n l:=some ⟨JM m,JM m,Mj λ_=>rfl⟩
def adX:P.underlying 117=some (.map 3 9):=by kernel_rfl
def adY:P.underlying 3=some ((.int .i64)):=by kernel_rfl
def akw:JF P 9=some (.sc (.string ByteArray.empty)):=by kernel_rfl
def aeX(m:Mm Int ByteArray)(k:Int):Cd.ok P G0 (.uZ (JM m) 117 (.sc (.int .i64 k)) false (.sc (.string ((m.get k).getD ByteArray.empty)))):=lZ (vv:=(λn=>.sc (.string n))) adX adY uM (z:=ByteArray.empty) akw m k
def nR(m:Mm Int ByteArray)(k:Int){b:Bool}(h:(m.get k).isSome=b):Cd.ok P G0 (.uZ (JM m) 117 (.sc (.int .i64 k)) true (.Bj [.sc (.string ((m.get k).getD ByteArray.empty)),.sc (.bool b)])):=xH (vv:=(λn=>.sc (.string n))) adX adY uM (z:=ByteArray.empty) akw m k h
def apQ(m:Mm Int ByteArray)(k:Int)(v:ByteArray):Cd.ok P G0 (.msB (JM m) 117 (.sc (.int .i64 k)) (.sc (.string v)) (JM (m.set k v))):=lI (vv:=(λn=>.sc (.string n))) adX adY uM m k v
def s8(m:Mm ByteArray Bool):Bb:=mB (λn=>.string n) (λn=>.sc (.bool n)) m
def LI{n l:Nat}(m:Mm ByteArray Bool):FO n l:=some ⟨s8 m,s8 m,Mj λ_=>rfl⟩
def akA:P.underlying 131=some (.map 9 4):=by kernel_rfl
def akx:P.underlying 9=some (.string):=by kernel_rfl
def aq9:JF P 4=some (.sc (.bool false)):=by kernel_rfl
def Zq(m:Mm ByteArray Bool)(k:ByteArray){b:Bool}(h:(m.get k).getD false=b):Cd.ok P G0 (.uZ (s8 m) 131 (.sc (.string k)) false (.sc (.bool b))):=by
 subst h;exact lZ (vv:=(λn=>.sc (.bool n))) akA akx yD (z:=false) aq9 m k
def V0(m:Mm ByteArray Bool)(k:ByteArray)(v:Bool):Cd.ok P G0 (.msB (s8 m) 131 (.sc (.string k)) (.sc (.bool v)) (s8 (m.set k v))):=lI (vv:=(λn=>.sc (.bool n))) akA akx yD m k v
def arE:P.underlying 160=some (.map 3 131):=by kernel_rfl
def apZ:P.underlying 3=some (.int .i64):=by kernel_rfl
def QW{es:List (Value×AV×Nat)}{cl j:Nat}{v:AV}{z:Int}(n:Int)(h:z=n)(hf:Wd (.int .i64) (.int .i64 n) es 0=some (some (j,v))):Cd.ok P G0 (.uZ (.map es cl) 160 (.sc (.int .i64 z)) false v):=by
 subst h;intro s id hg;unfold H3;simp[arE,apZ,TG,hg,hf,plainKey]
def XK{a b:Int}{q:Bool}(h:some (Ba a b)=some q)(x y:Operand):L2 P .eql 3 x y (.sc (.int .i64 a)) (.sc (.int .i64 b))=some (.sc (.bool q)):=by
 rw[<- LX];cases h
 kernel_rfl
def Fl{a b:ByteArray}{q:Bool}(h:some (By a.data.toList b.data.toList)=some q)(x y:Operand):L2 P .eql 9 x y (.sc (.string a)) (.sc (.string b))=some (.sc (.bool q)):=by
 rw[<- LX];cases h
 kernel_rfl
def ary{a b:Int}{q:Bool}(h:some (Iy b a)=some q)(x y:Operand):L2 P .geq 3 x y (.sc (.int .i64 a)) (.sc (.int .i64 b))=some (.sc (.bool q)):=by
 rw[<- LX];cases h
 kernel_rfl
def lK{a b:Int}{q:Bool}(h:some (C3 b a)=some q)(x y:Operand):L2 P .gtr 3 x y (.sc (.int .i64 a)) (.sc (.int .i64 b))=some (.sc (.bool q)):=by
 rw[<- LX];cases h
 kernel_rfl
def apE{a b:Int}{q:Bool}(h:some (Iy a b)=some q)(x y:Operand):L2 P .leq 3 x y (.sc (.int .i64 a)) (.sc (.int .i64 b))=some (.sc (.bool q)):=by
 rw[<- LX];cases h
 kernel_rfl
def ajW{a b:Int}{q:Bool}(h:some (C3 a b)=some q)(x y:Operand):L2 P .lss 3 x y (.sc (.int .i64 a)) (.sc (.int .i64 b))=some (.sc (.bool q)):=by
 rw[<- LX];cases h
 kernel_rfl
def akB{a b:Int}{q:Bool}(h:some (!Ba a b)=some q)(x y:Operand):L2 P .neq 3 x y (.sc (.int .i64 a)) (.sc (.int .i64 b))=some (.sc (.bool q)):=by
 rw[<- LX];cases h
 kernel_rfl
def fP{a b:ByteArray}{q:Bool}(h:some (!By a.data.toList b.data.toList)=some q)(x y:Operand):L2 P .neq 9 x y (.sc (.string a)) (.sc (.string b))=some (.sc (.bool q)):=by
 rw[<- LX];cases h
 kernel_rfl
def Lv:ByteArray:=⟨#[33,61]⟩
def S8:ByteArray:=⟨#[42]⟩
def QV:ByteArray:=⟨#[43]⟩
def T7:ByteArray:=⟨#[45]⟩
def OO:ByteArray:=⟨#[47]⟩
def Um:ByteArray:=⟨#[60]⟩
def J2:ByteArray:=⟨#[60,61]⟩
def JV:ByteArray:=⟨#[61,61]⟩
def S3:ByteArray:=⟨#[97,109,111,117,110,116]⟩
def Mp:ByteArray:=⟨#[97,110,100]⟩
def xY:ByteArray:=⟨#[97,114,116]⟩
def QN:ByteArray:=⟨#[97,114,116,105,99,108,101]⟩
def aW:ByteArray:=⟨#[97,116]⟩
def SP:ByteArray:=⟨#[100,97,121]⟩
def TH:ByteArray:=⟨#[100,101,100,117,99,116]⟩
def fX:ByteArray:=⟨#[101,97,114,110]⟩
def dD:ByteArray:=⟨#[102,97,99,116]⟩
def WO:ByteArray:=⟨#[102,97,108,115,101]⟩
def Wj:ByteArray:=⟨#[102,108,111,111,114]⟩
def vQ:ByteArray:=⟨#[102,111,114]⟩
def hD:ByteArray:=⟨#[102,114,111,109]⟩
def FM:ByteArray:=⟨#[103,114,101,97,116,101,115,116]⟩
def fR:ByteArray:=⟨#[105,110,102,111]⟩
def Xb:ByteArray:=⟨#[107,110,111,119,110]⟩
def Ni:ByteArray:=⟨#[108,101,97,115,116]⟩
def eU:ByteArray:=⟨#[108,105,110,101]⟩
def wN:ByteArray:=⟨#[109,105,110]⟩
def B2:ByteArray:=⟨#[109,105,110,117,116,101,115]⟩
def Ja:ByteArray:=⟨#[109,111,110,116,104]⟩
def wU:ByteArray:=⟨#[110,111,116]⟩
def AF:ByteArray:=⟨#[110,117,109,98,101,114]⟩
def bR:ByteArray:=⟨#[111,114]⟩
def fD:ByteArray:=⟨#[114,97,110,107]⟩
def Wr:ByteArray:=⟨#[116,97,98,108,101]⟩
def toS:ByteArray:=⟨#[116,111]⟩
def iB:ByteArray:=⟨#[116,114,117,101]⟩
def Ak:ByteArray:=⟨#[116,114,117,116,104]⟩
def Tv:ByteArray:=⟨#[117,110,108,101,115,115]⟩
def EH:ByteArray:=⟨#[119,101,101,107,100,97,121]⟩
def eN:ByteArray:=⟨#[119,104,101,110]⟩
def Mz:ByteArray:=⟨#[121,101,97,114]⟩
end Mo
end Go.Proofs.YtnijkdknnmgoeaaGreat
namespace Go.Proofs.YtnijkdknnmgoeaaGreat
open AI Go
namespace Mo
set_option maxRecDepth 100000
set_option maxHeartbeats 4000000
def aos(x:Pc):Prop:=(-9223372036854775808<=x.fr/\x.fr<=9223372036854775807)/\(-9223372036854775808<=x.Ct/\x.Ct<=9223372036854775807)/\(-9223372036854775808<=x.Iz/\x.Iz<=9223372036854775807)
def af5(x:Fn):Prop:=x.ps.length<=9223372036854775807/\(∀y∈x.ps,aos y)
mutual
def Iu:Nd->Prop
 | ⟨kind,name,unit,n,fr,to,known,BX,kids,Ct⟩=>af5 BX/\kids.length<=9223372036854775807/\sS kids
def sS:List Nd->Prop
 | []=>True
 | k::ks=>Iu k/\sS ks
end
def lT{l:List Nd}:sS l↔∀k∈l,Iu k:=by
 induction l with
 | nil=>simp[sS]
 | cons k l ih=>simp[sS,ih]
def uK(x:Nd):Iu x↔af5 x.BX/\x.kids.length<=9223372036854775807/\∀y∈x.kids,Iu y:=by
 cases x;rw[Iu,lT]
def amT(_:Dc):Prop:=True
mutual
def jU:Ex->Prop
 | ⟨op,n,unit,BX,kids⟩=>af5 BX/\kids.length<=9223372036854775807/\eI kids
def eI:List Ex->Prop
 | []=>True
 | k::ks=>jU k/\eI ks
end
def abM{l:List Ex}:eI l↔∀k∈l,jU k:=by
 induction l with
 | nil=>simp[eI]
 | cons k l ih=>simp[eI,ih]
def aor(x:Ar):Prop:=x.wh.length<=9223372036854775807/\(∀y∈x.wh,jU y)/\x.un.length<=9223372036854775807/\jU x.am
def aiC(x:Co):Prop:=x.facts.length<=9223372036854775807/\x.lines.length<=9223372036854775807/\x.Ap.length<=9223372036854775807/\(∀y∈x.Ap,aor y)
end Mo
end Go.Proofs.YtnijkdknnmgoeaaGreat
namespace AI
open Go Go.RowKit
section
variable {P:Program} {G:Bh} {α:Type} {f:α->List AV} {C:List α->List AV} {k:Nat}
def qN(C:List α->List AV):Option (List α)->List AV
 | none=>[.sl .full 0 []]
 | some l=>[.sl .lost l.length (C l)]
def MG.nl(h:MG f C k):MG (qN C) (rows (qN C)) 1:=⟨λ_=>rfl,λx=>by cases x<;>rfl,λx=>by
 cases x with
 | none=>rfl
 | some l=>simp only[qN,Bx,plain,h.Aq];rfl⟩
def foc(L:List (Option (List α)))(i:Nat):Option (List (Option (List α))×List (Option (List α))):=match L[i]? with
 | some none=>some (L.take i,L.drop (i+1))
 | _=>none
def ac5{L p q:List (Option (List α))}{i:Nat}(h:foc L i=some (p,q)):p.length=i/\L=p++none::q:=by
 unfold foc at h;split at h;rename_i hx;cases h;obtain⟨hl,hx⟩:=List.getElem?_eq_some_iff.1 hx;refine⟨by rw[List.length_take];omega,?_⟩;rw[<- hx,<- List.drop_eq_getElem_cons hl,List.take_append_drop];cases h
def Uq(C:List α->List AV)(p:List (Option (List α)))(a:AV)(q:List (Option (List α))):List AV:=rows (qN C) p++a::rows (qN C) q
def oO(p:List (Option (List α))):(rows (qN C) p).length=p.length:=by
 have:=Nw (f:=qN C) (k:=1) (l:=p) (λx=>by cases x<;>rfl)
 simpa using this
def aq5(sz:Nat){L p q:List (Option (List α))}{i nr:Nat}(h:foc L i=some (p,q)):Cd.ok P G (.rd nr (.cells (rows (qN C) L)) (.cells (Uq C p (.sl (.row nr sz) 0 []) q))):=by
 obtain⟨hp,rfl⟩:=ac5 h;intro cx w o hr ho
 have e:(rows (qN C) (p++none::q)).set (rows (qN C) p).length (.sl (.row nr sz) 0 [])=Uq C p (.sl (.row nr sz) 0 []) q:=by
   rw[O4,HV];simp only[qN,Uq,List.cons_append,List.nil_append];rw[List.set_append_right _ _ (Nat.le_refl _),Nat.sub_self];rfl
 rw[<- e];cases ho with
 | GZ ext h1 =>
   refine .GZ ext (h1.ad5 (a:=.sl .full 0 []) ?_ (λv hv=>nE rfl hv hr));rw[O4,HV];simp[qN]
def ai9{n i k:Nat}(h:K5 n ((i:Nat):Int)=some k):k=i:=by
 unfold K5 at h;split at h;cases h;simp;cases h
def zP{L p q:List (Option (List α))}{n i j:Nat}(h:foc L i=some (p,q))(hj:K5 n ((i:Nat):Int)=some j):p.length=j:=by
 rw[(ac5 h).1,ai9 hj]
def ldf{e:TypeId}(hd:(P.underlying e).map Wk=some false)(hs:(P.info? e).map (·.size)=some 1){p q:List (Option (List α))}{a:AV}{i:Nat}(h:p.length=i):Cd.ok P G (.ldB (.cells (Uq C p a q)) e (0+i*1) a):=by
 intro s id hg;simp only[Lk,hg];unfold apart;obtain⟨d,hu,hd⟩:=Option.map_eq_some_iff.1 hd;rw[hu];cases hi:P.info? e with
 | none=>rw[hi] at hs;cases hs
 | some j =>
   simp only;rw[hd,if_neg (by simp),Nat.zero_add,Nat.mul_one];unfold Uq;rw[List.getElem?_append_right (by rw[oO];omega),oO,h,Nat.sub_self];rfl
def aca{β:Type}(A B:List β)(a v:β):Jl (A++a::B) A.length [v]=A++v::B:=by
 unfold Jl;rw[List.take_left' rfl];simp[List.drop_append]
def stf{e:TypeId}(hs:(P.info? e).map (·.size)=some 1){p q:List (Option (List α))}{a v:AV}{i:Nat}(h:p.length=i)(hv:cellsOf v=[v])(h1:one v=true):Cd.ok P G (.stB (.cells (Uq C p a q)) e (0+i*1) v (.cells (Uq C p v q))):=by
 intro s id hg;cases hi:P.info? e with
 | none=>rw[hi] at hs;cases hs
 | some j =>
   rw[hi] at hs;have hk:j.size=1:=by simpa using hs
   unfold MX;rw[hi];simp only[hg];rw[hv,hk,Nat.zero_add,Nat.mul_one,if_pos ⟨rfl,by simp[h1],by unfold Uq;rw[List.length_append,oO,List.length_cons];omega⟩];congr 3;unfold Uq;rw[<- h,<- oO (C:=C)];exact aca _ _ _ _
def aa5{n m:Nat}{x y:List AV}(h:Kc n m x y):∀{A:List AV},Bx A=true->Kc n m (A++x) (A++y)
 | [],_=>h
 | a::A,hA=>by
   simp only[Bx,Bool.and_eq_true] at hA;exact .cons (.plain hA.1) (aa5 h hA.2)
def arV(hl:MG f C k){n m r sz:Nat}(p:List (Option (List α)))(l:List α)(q:List (Option (List α))):Rj n m (.cells (Uq C p (.sl (.row r sz) l.length (C l)) q)) (.cells (rows (qN C) (p++some l::q))):=by
 have e:rows (qN C) (p++some l::q)=rows (qN C) p++(.sl .lost l.length (C l)::rows (qN C) q):=by
   rw[O4,HV];rfl
 rw[e];refine .cells ?_;unfold Uq;exact aa5 (.cons (.lost (.plain (hl.Aq l)) (λe=>e)) (.plain (hl.nl.Aq q))) (hl.nl.Aq p)
def MG.aps(h:MG f C k){t elem:TypeId}(hu:P.underlying t=some (.slice elem)){z:α}(hi:(P.info? elem).map (λi=>(i.size,decide (i.bytes<=16777216),i.zero.bind λz=>L9 z.cells.toList))=some (k,true,some (f z)))(hk:k≠0){n:Nat}(hn:n<=16777216):Cd.ok P G (.mkB t (.sc (.int .i64 ((n:Nat):Int))) (.sc (.int .i64 ((n:Nat):Int))) n (.cells (C (List.replicate n z)))):=by
 intro s;cases hq:P.info? elem with
 | none=>rw[hq] at hi;cases hi
 | some e =>
   rw[hq] at hi;simp only[Option.map_some,Option.some.injEq,Prod.mk.injEq,decide_eq_true_eq] at hi;obtain⟨h1,h2,h3⟩:=hi;obtain⟨z0,m5,hzs⟩:=Option.bind_eq_some_iff.1 h3;have ha:Su (.sc (.int .i64 ((n:Nat):Int)))=some n:=by unfold Su;simp
   have KS:f z≠[]:=λe=>hk (by rw[<- h.len z,e];rfl);refine⟨.cells (C (List.replicate n z)),?_,λcx w o ho=>ho⟩;unfold Iq;rw[hu];simp only[hq,ha,m5,hzs]
   rw[if_pos ⟨trivial,hn,Nat.le_trans (Nat.mul_le_mul hn h2) (by decide),by cases hf:f z with
     | nil=>exact absurd hf KS
     | cons a l=>rfl⟩]
   congr 4;rw[h1,<- h.len z,kF _ _ KS,h.eq];unfold rows;rw[List.flatMap_def,List.map_replicate]
def ldn(hl:MG f C k){e:TypeId}(hd:(P.underlying e).map Wk=some false)(hs:(P.info? e).map (·.size)=some 1){L:List (Option (List α))}{i:Nat}{l:List α}(h:(L[i]?).join=some l):Cd.ok P G (.ldB (.cells (rows (qN C) L)) e (0+i*1) (.sl .lost l.length (C l))) :=
 hl.nl.ld1 hd hs (x:=some l) (by cases hx:L[i]? with
   | none=>rw[hx] at h;cases h
   | some y=>rw[hx] at h;exact congrArg some h) rfl
def pfo(id:Nat){b b2:Bb}{nr:Nat}(h:Cd.ok P G (.rd nr b b2)):PC P G:=⟨.f id b b2,[.zF [some b] [some b] [] [],.rd nr b b2],⟨⟨rfl,rfl⟩,h,trivial⟩⟩
end
end AI
namespace Go.Proofs.YtnijkdknnmgoeaaGreat
open AI Go
namespace Mo
variable {G0:Bh}
def TU:Option (List Bool)->List AV:=qN (rows Vx)
def acg:MG TU (rows TU) 1:=K1.nl
def an8{n:Nat}(hn:n<=16777216):Cd.ok P G0 (.mkB 91 (.sc (.int .i64 ((n:Nat):Int))) (.sc (.int .i64 ((n:Nat):Int))) n (.cells (rows TU (List.replicate n none)))):=acg.aps u91 (z:=none) (by kernel_rfl) (by decide) hn
def apG{p q:List (Option (List Bool))}{a:AV}{i:Nat}(h:p.length=i):Cd.ok P G0 (.ldB (.cells (Uq (rows Vx) p a q)) 71 (0+i*1) a):=ldf (by kernel_rfl) s71 h
def ara{p q:List (Option (List Bool))}{a v:AV}{i:Nat}(h:p.length=i)(hv:cellsOf v=[v]:=by rfl)(h1:one v=true:=by rfl):Cd.ok P G0 (.stB (.cells (Uq (rows Vx) p a q)) 71 (0+i*1) v (.cells (Uq (rows Vx) p v q))):=stf s71 h hv h1
def aaH{l:List (Option (List Bool))}{i:Nat}{x:List Bool}(h:(l[i]?).join=some x):Cd.ok P G0 (.ldB (.cells (rows TU l)) 71 (0+i*1) (.sl .lost x.length (rows Vx x))):=ldn K1 (by kernel_rfl) s71 h
def agH{L p q:List (Option (List Bool))}{i nr:Nat}(h:foc L i=some (p,q)):Cd.ok P G0 (.rd nr (.cells (rows TU L)) (.cells (Uq (rows Vx) p (.sl (.row nr 1) 0 []) q))):=aq5 1 h
end Mo
end Go.Proofs.YtnijkdknnmgoeaaGreat
namespace AI
open Go
abbrev AV.zi(x:Int):AV:=.sc (.int .i64 x)
abbrev AV.zs(x:ByteArray):AV:=.sc (.string x)
abbrev AV.zb(x:Bool):AV:=.sc (.bool x)
abbrev bT:Value:=.bool true
abbrev bF:Value:=.bool false
def sJ{α:Type}{a b:α}{Q:Prop}(k:a=b->Q):some a=some b->Q:=λh=>k (Option.some.inj h)
def IK{α β:Type}{a b:α}{c d:β}{Q:Prop}(k:a=b->c=d->Q):some (a,c)=some (b,d)->Q:=λh=>by cases h;exact k rfl rfl
def rT{P:Program}{G:Bh}{c:Code}{fr:List AV}{s:AS}{x:Value}{fn:Func}{m:Nat}(l:List (PC P G))(h:abf P fn (HN P G 300 c [] (TN l) fr s)=some (YX l,.sc x):=by kernel_rfl):W P G (XS P G) H0 c fr s (PE P fn m (λr _=>∃a,r=.ret a/\Fits 0 0 a (.sc x))):=rS (Ds 300 l) h
end AI
namespace Go.Proofs.YtnijkdknnmgoeaaGreat
open AI Go
namespace Mo
abbrev LP:=List (PC P G)
abbrev VO(x:Nd)(r:List AV):List AV:=.zi x.kind::.zs x.name::.zs x.unit::.zi x.n::.zi x.fr::.zi x.to::.zi x.known::.zi x.BX.den::.sl .lost x.BX.ps.length (rows Jc x.BX.ps)::.sl .lost x.kids.length (EG x.kids)::.zi x.Ct::r
abbrev g9(t:Tr):List (Nat×Bb):=[(3,(Ff t.Ao)),(2,(Fu t.lines)),(1,(Fu t.facts)),(0,.cells (gJ 0 1 2 1 2 3 t))]
abbrev fZ(t:Tr):List (Nat×Nat):=[(0,t.Ae.facts.length),(1,t.Ae.lines.length),(2,t.Ae.Ap.length)]
end Mo
end Go.Proofs.YtnijkdknnmgoeaaGreat
namespace AI
open Go
def pick(l:List AV):List Nat->List Value
 | []=>[]
 | b::bs=>(match l.drop b with | .sc v::_=>v | _=>undef)::pick l bs
def jR(bs:List Nat):HR->List Value
 | some (_,_,_,l,_)=>pick l bs
 | none=>[]
def apC(n:Nat):List Nat->Bool
 | []=>false
 | m::l=>(match Nat.beq n m with | true=>true | false=>apC n l)
def df(ds:List Nat):List (Nat×AV)->List (Nat×AV)
 | []=>[]
 | e::l=>(match apC e.1 ds with | true=>df ds l | false=>e::df ds l)
abbrev RA{P:Program}{ρ:Type}(f:Func)(g:ρ->AV):(AX->List AV->AS->Prop)->ρ->Prop:=λQ v=>Ws P f 0 Q (g v)
def Cb{α β γ:Type}{o:Option (α×β)}{g:α×β->Option γ}{r:γ}{X:Prop}(k:∀a b,o=some (a,b)->g (a,b)=some r->X):o.bind g=some r->X:=λh=>by
 cases o with
 | none=>cases h
 | some p=>exact k p.1 p.2 rfl h
section
variable {P:Program} {G:Bh}
def gA{c:Code}{Ob:List AV}{s:AS}{Q:AX->List AV->AS->Prop}{fn:Func}{m:Nat}{v w:AV}(l:List (PC P G))(k:Ws P fn m Q w)(hf:Fits 0 0 v w)(h:abf P fn (HN P G 300 c [] (TN l) Ob s)=some (YX l,v):=by kernel_rfl):W P G (XS P G) H0 c Ob s Q:=Vk fn m (Ds 300 l) h k hf
def C7{ks:List KI}{Ob:List AV}{s:AS}{Q:AX->List AV->AS->Prop}{fn:Func}{m:Nat}{v w:AV}(l:List (PC P G))(k:Ws P fn m Q w)(hf:Fits 0 0 v w)(h:abf P fn (N3 (HN P G 300) ks .normal (TN l) Ob s)=some (YX l,v):=by kernel_rfl):Ce P G ks Q .normal Ob s:=Vk fn m (bL 300 l) h k hf
def gE{c:Code}{Ob:List AV}{s s0 s2:AS}{L:Code}{Q:AX->List AV->AS->Prop}{id n:Nat}{LL:List (Nat×AV)}{bs:List Nat}(l:List (PC P G))(k:∀j,Q (.exit id) (fr n LL bs j) s2)(h:n6 (fr n LL bs (jR bs (HN P G 300 c [] (TN l) Ob s))) (HN P G 300 c [] (TN l) Ob s)=some (.exit id,YX l,fr n LL bs (jR bs (HN P G 300 c [] (TN l) Ob s)),s2):=by kernel_rfl):W P G (XS P G) H0 c Ob s (Sb P G L s0 Q):=ae7 (Ds 300 l) h (k _)
def gM{c:Code}{Ob:List AV}{s s0 s2:AS}{L:Code}{Q:AX->List AV->AS->Prop}{n:Nat}{LL:List (Nat×AV)}{bs:List Nat}(l:List (PC P G))(k:∀j,WL P G (XS P G) H0 L (fr n LL bs j) s2 Q)(h:n6 (fr n LL bs (jR bs (HN P G 300 c [] (TN l) Ob s))) (HN P G 300 c [] (TN l) Ob s)=some (.normal,YX l,fr n LL bs (jR bs (HN P G 300 c [] (TN l) Ob s)),s2):=by kernel_rfl):W P G (XS P G) H0 c Ob s (Sb P G L s0 Q):=aj2 (Ds 300 l) h (k _)
def gMB{ks:List KI}{Ob:List AV}{s s0 s2:AS}{L:Code}{Q:AX->List AV->AS->Prop}{n:Nat}{LL:List (Nat×AV)}{bs:List Nat}(l:List (PC P G))(k:∀j,WL P G (XS P G) H0 L (fr n LL bs j) s2 Q)(h:n6 (fr n LL bs (jR bs (N3 (HN P G 300) ks .normal (TN l) Ob s))) (N3 (HN P G 300) ks .normal (TN l) Ob s)=some (.normal,YX l,fr n LL bs (jR bs (N3 (HN P G 300) ks .normal (TN l) Ob s)),s2):=by kernel_rfl):Ce P G ks (Sb P G L s0 Q) .normal Ob s:=aj2 (bL 300 l) h (k _)
end
end AI
namespace Go.Proofs.YtnijkdknnmgoeaaGreat
open AI Go
namespace Mo
def gK{c:Code}{Ob:List AV}{s s0 s2:AS}{Q:AX->List AV->AS->Prop}{fn:Func}{m:Nat}{v:AV}(Ig:List (FP s0.nx s0.nr))(LA:List (FO s0.nx s0.nr))(l:List (PC P G))(k:Jm P G fn m s0 Q v s2)(h:pS s0.nx s0.nr P fn m .ret [v] (Y5 Ig) (mG LA) (HN P G 300 c [] (TN l) Ob s)=some (.ret,YX l,[v],s2,iD Ig,qS LA):=by kernel_rfl):W P G (XS P G) H0 c Ob s Q:=adg Hd.CY fn m Ig LA (Ds 300 l) h k
def gR{c:Code}{Ob:List AV}{s s0 s2:AS}{fn:Func}{m:Nat}{v:AV}(Ig:List (FP s0.nx s0.nr))(LA:List (FO s0.nx s0.nr))(l:List (PC P G))(h:pS s0.nx s0.nr P fn m .ret [v] (Y5 Ig) (mG LA) (HN P G 300 c [] (TN l) Ob s)=some (.ret,YX l,[v],s2,iD Ig,qS LA):=by kernel_rfl):W P G (XS P G) H0 c Ob s (PE P fn m (QM G s0 (.ret v) s2)):=adg Hd.CY fn m Ig LA (Ds 300 l) h .body
def Om{ks:List KI}{Ob:List AV}{s s0 s2:AS}{fn:Func}{m:Nat}{v:AV}(Ig:List (FP s0.nx s0.nr))(LA:List (FO s0.nx s0.nr))(l:List (PC P G))(h:pS s0.nx s0.nr P fn m .ret [v] (Y5 Ig) (mG LA) (N3 (HN P G 300) ks .normal (TN l) Ob s)=some (.ret,YX l,[v],s2,iD Ig,qS LA):=by kernel_rfl):Ce P G ks (PE P fn m (QM G s0 (.ret v) s2)) .normal Ob s:=adg Hd.CY fn m Ig LA (bL 300 l) h .body
def gD{c:Code}{Ob:List AV}{s s0 s2:AS}{fn:Func}{m:Nat}{v:AV}(Ig:List (FP s0.nx s0.nr))(LA:List (FO s0.nx s0.nr))(l:List (PC P G))(h:pS s0.nx s0.nr P fn m .normal [v] (Y5 Ig) (mG LA) (HN P G 300 c [] (TN l) Ob s)=some (.normal,YX l,[v],s2,iD Ig,qS LA):=by kernel_rfl):W P G (XS P G) H0 c Ob s (PE P fn m (QM G s0 (.ret v) s2)):=akn Hd.CY fn m Ig LA (Ds 300 l) h
def gDB{ks:List KI}{Ob:List AV}{s s0 s2:AS}{fn:Func}{m:Nat}{v:AV}(Ig:List (FP s0.nx s0.nr))(LA:List (FO s0.nx s0.nr))(l:List (PC P G))(h:pS s0.nx s0.nr P fn m .normal [v] (Y5 Ig) (mG LA) (N3 (HN P G 300) ks .normal (TN l) Ob s)=some (.normal,YX l,[v],s2,iD Ig,qS LA):=by kernel_rfl):Ce P G ks (PE P fn m (QM G s0 (.ret v) s2)) .normal Ob s:=akn Hd.CY fn m Ig LA (bL 300 l) h
def gN{c:Code}{Ob:List AV}{s s0 s2:AS}{L:Code}{Q:AX->List AV->AS->Prop}{n:Nat}{LL:List (Nat×AV)}{bs:List Nat}(Ig:List (FP s0.nx s0.nr))(LA:List (FO s0.nx s0.nr))(l:List (PC P G))(k:∀j,WL P G (XS P G) H0 L (fr n LL bs j) s2 Q)(h:aaG (fr n LL bs (jR bs (HN P G 300 c [] (TN l) Ob s))) s0.nx s0.nr (Y5 Ig) (mG LA) (HN P G 300 c [] (TN l) Ob s)=some (.normal,YX l,fr n LL bs (jR bs (HN P G 300 c [] (TN l) Ob s)),s2,iD Ig,qS LA):=by kernel_rfl):W P G (XS P G) H0 c Ob s (Sb P G L s0 Q):=ajI Hd.CY Ig LA (Ds 300 l) h (k _)
def gNB{ks:List KI}{Ob:List AV}{s s0 s2:AS}{L:Code}{Q:AX->List AV->AS->Prop}{n:Nat}{LL:List (Nat×AV)}{bs:List Nat}(Ig:List (FP s0.nx s0.nr))(LA:List (FO s0.nx s0.nr))(l:List (PC P G))(k:∀j,WL P G (XS P G) H0 L (fr n LL bs j) s2 Q)(h:aaG (fr n LL bs (jR bs (N3 (HN P G 300) ks .normal (TN l) Ob s))) s0.nx s0.nr (Y5 Ig) (mG LA) (N3 (HN P G 300) ks .normal (TN l) Ob s)=some (.normal,YX l,fr n LL bs (jR bs (N3 (HN P G 300) ks .normal (TN l) Ob s)),s2,iD Ig,qS LA):=by kernel_rfl):Ce P G ks (Sb P G L s0 Q) .normal Ob s:=ajI Hd.CY Ig LA (bL 300 l) h (k _)
section
variable {α γ ρ β:Type} {Q:AX->List AV->AS->Prop} {done:γ->γ} {k:γ->Option β} {kr:ρ->Option β} {r:β} {body:Nat->α->γ->Option (Lp γ γ ρ)} {l:List α} {i0:Nat} {x:γ}
def CF{c:Code}{Ob:List AV}{s0:AS}(Rv:(AX->List AV->AS->Prop)->ρ->Prop)(n:Nat)(bs:List Nat)(FL:Nat->γ->List (Nat×AV))(S:γ->AS)(ds:List Nat)(z:List NZ)(id:Nat)(L:Code)(Ox:List KI)(hs:List (PC P G))
   (hB:∀i y x j r,l[i]?=some y->i < l.length->i < 9223372036854775807->RQ (λx'=>∀j',WL P G (XS P G) H0 L (fr n (FL (i+1) x') bs j') (S x') (Cy id (Ce P G Ox Q))) (Z1 (Cy id (Ce P G Ox Q)) id (λd j=>fr n (df ds (FL 0 d)) bs j) S) (Rv (Cy id (Ce P G Ox Q))) r->body i y x=some r->W P G (XS P G) H0 L (fr n (FL i x) bs j) (S x) (Sb P G L (S x) (Cy id (Ce P G Ox Q))))
   (hb:∀d j,k d=some r->Ce P G Ox Q .normal (fr n (df ds (FL 0 d)) bs j) (S d)) (hr:∀v,kr v=some r->Rv (Cy id (Ce P G Ox Q)) v:=by (intro v h;cases h;exact .outer .body))
   (hA:ahf z (fr n (FL i0 x) bs (jR bs (HN P G 300 c [] (TN hs) Ob s0))) (HN P G 300 c [] (TN hs) Ob s0)=some (YX hs,id,L,Ox,fr n (FL i0 x) bs (jR bs (HN P G 300 c [] (TN hs) Ob s0)),S x):=by kernel_rfl)
   (hZ:∀i x j (h:l.length<=i),n6 (fr n (df ds (FL 0 (done x))) bs (jR bs (HN P G 300 L [] (TN [pb (P:=P) (G:=G) (ltF h)]) (fr n (FL i x) bs j) (S x)))) (HN P G 300 L [] (TN [pb (P:=P) (G:=G) (ltF h)]) (fr n (FL i x) bs j) (S x))=some (.exit id,YX [pb (P:=P) (G:=G) (ltF h)],fr n (df ds (FL 0 (done x))) bs (jR bs (HN P G 300 L [] (TN [pb (P:=P) (G:=G) (ltF h)]) (fr n (FL i x) bs j) (S x))),S (done x)):=by (intro i x j h;kernel_rfl)) :
   (ED l.length (Au body done (l.drop i0) i0 x)).bind (Eu k kr)=some r->W P G (XS P G) H0 c Ob s0 Q :=
 ado Rv (λi x j=>fr n (FL i x) bs j) S (λd j=>fr n (df ds (FL 0 d)) bs j) S _ (pY z id L Ox (Ds 300 hs) hA) (λi x j h hq=>ae7 (Ds 300 [pb (ltF h)]) (hZ i x j h) (hq _)) hB hb hr
def ZX{ks:List KI}{Ob:List AV}{s0:AS}(Rv:(AX->List AV->AS->Prop)->ρ->Prop)(n:Nat)(bs:List Nat)(FL:Nat->γ->List (Nat×AV))(S:γ->AS)(ds:List Nat)(z:List NZ)(id:Nat)(L:Code)(Ox:List KI)(hs:List (PC P G))
   (hB:∀i y x j r,l[i]?=some y->i < l.length->i < 9223372036854775807->RQ (λx'=>∀j',WL P G (XS P G) H0 L (fr n (FL (i+1) x') bs j') (S x') (Cy id (Ce P G Ox Q))) (Z1 (Cy id (Ce P G Ox Q)) id (λd j=>fr n (df ds (FL 0 d)) bs j) S) (Rv (Cy id (Ce P G Ox Q))) r->body i y x=some r->W P G (XS P G) H0 L (fr n (FL i x) bs j) (S x) (Sb P G L (S x) (Cy id (Ce P G Ox Q))))
   (hb:∀d j,k d=some r->Ce P G Ox Q .normal (fr n (df ds (FL 0 d)) bs j) (S d)) (hr:∀v,kr v=some r->Rv (Cy id (Ce P G Ox Q)) v:=by (intro v h;cases h;exact .outer .body))
   (hA:ahf z (fr n (FL i0 x) bs (jR bs (N3 (HN P G 300) ks .normal (TN hs) Ob s0))) (N3 (HN P G 300) ks .normal (TN hs) Ob s0)=some (YX hs,id,L,Ox,fr n (FL i0 x) bs (jR bs (N3 (HN P G 300) ks .normal (TN hs) Ob s0)),S x):=by kernel_rfl)
   (hZ:∀i x j (h:l.length<=i),n6 (fr n (df ds (FL 0 (done x))) bs (jR bs (HN P G 300 L [] (TN [pb (P:=P) (G:=G) (ltF h)]) (fr n (FL i x) bs j) (S x)))) (HN P G 300 L [] (TN [pb (P:=P) (G:=G) (ltF h)]) (fr n (FL i x) bs j) (S x))=some (.exit id,YX [pb (P:=P) (G:=G) (ltF h)],fr n (df ds (FL 0 (done x))) bs (jR bs (HN P G 300 L [] (TN [pb (P:=P) (G:=G) (ltF h)]) (fr n (FL i x) bs j) (S x))),S (done x)):=by (intro i x j h;kernel_rfl)) :
   (ED l.length (Au body done (l.drop i0) i0 x)).bind (Eu k kr)=some r->Ce P G ks Q .normal Ob s0 :=
 ado Rv (λi x j=>fr n (FL i x) bs j) S (λd j=>fr n (df ds (FL 0 d)) bs j) S _ (pY z id L Ox (bL 300 hs) hA) (λi x j h hq=>ae7 (Ds 300 [pb (ltF h)]) (hZ i x j h) (hq _)) hB hb hr
end
def aeD{f:Func}(h:f.body.isSome=true):f.body=some (Al f):=by
 unfold Al;cases hb:f.body with
 | none=>rw[hb] at h;cases h
 | some c=>rfl
def pM{o:Prop}{f:FuncId}{fn:Func}{args:List AV}{v:AV}(hf:P.funcs[f]?=some fn)(hp:Bx args=true)(hv:plain v=true)(h:o->W P G (XS P G) H0 (Al fn) (args++List.replicate (fn.ntmps - args.length) (.sc undef)) AI.s0 (PE P fn AI.s0.nx (λr _=>∃a,r=.ret a/\Fits 0 0 a v)))(hb:fn.body.isSome=true:=by kernel_rfl):o->Pure P G f args v:=λk=>uJ Hd.mixed Hd.CY (Vs hf (aeD hb) (h k)) hp hv
def sM{o:Prop}{f:FuncId}{fn:Func}{args:List AV}{s0 s2:AS}{r0:CR}(hf:P.funcs[f]?=some fn)(h:o->W P G (XS P G) H0 (Al fn) (args++List.replicate (fn.ntmps - args.length) (.sc undef)) s0 (PE P fn s0.nx (QM G s0 r0 s2)))(hb:fn.body.isSome=true:=by kernel_rfl):o->Sound P G (.call f args s0 r0 s2):=λk=>akG Hd.mixed (Vs hf (aeD hb) (h k))
def ckU{f:FuncId}{l:List AV}{x y:Ck}{v:AV}(hS:Sound P G (.call f (.ptr 0 0::l) ⟨[(0,.cells (LH x))],1,[],0⟩ (.ret v) ⟨[(0,.cells (LH y))],1,[],0⟩))(hl:Bx l=true)(hv:plain v=true)(u0:Nat)(RV:([u0]:List Nat).Nodup:=by decide):Cd.ok P G (.H4 f (.ptr u0 0::l) (.ret v) [(u0,.cells (LH x))] [] [(u0,.cells (LH y))] []) :=
 Io (M:=[.cells (LH x)]) (M2:=[.cells (LH y)]) (T:=[]) (T2:=[]) (k:=1) (j:=0) Hd.CY _ _ _ _ hS rfl rfl rfl rfl rfl RV .nil rfl rfl (.cons (.cells (.pl rfl)) .nil) (.cons (.cells (.pl rfl)) .nil) (.cons (.ptr (by decide)) (.pl hl)) (.pl hv) (λe he=>by simp only[List.mem_singleton] at he;subst he;exact(.arg (.here .ptr)))
def cqU{f:FuncId}{l:List AV}{x y:Cq}{v:AV}(hS:Sound P G (.call f (.ptr 0 0::l) ⟨[(0,.cells (QX 0 x))],1,[(0,x.E2.length)],1⟩ (.ret v) ⟨[(0,.cells (QX 0 y))],1,[(0,y.E2.length)],1⟩))(hl:Bx l=true)(hv:plain v=true)(u0 v0:Nat)(RV:([u0]:List Nat).Nodup:=by decide)(TE:([v0]:List Nat).Nodup:=by decide):Cd.ok P G (.H4 f (.ptr u0 0::l) (.ret v) [(u0,.cells (QX v0 x))] [(v0,x.E2.length)] [(u0,.cells (QX v0 y))] [(v0,y.E2.length)]) :=
 Io (M:=[.cells (QX 0 x)]) (M2:=[.cells (QX 0 y)]) (T:=[x.E2.length]) (T2:=[y.E2.length]) (k:=1) (j:=1) Hd.CY _ _ _ _ hS rfl rfl rfl rfl rfl RV TE rfl rfl (.cons (.cells (aep x (by decide))) .nil) (.cons (.cells (aep y (by decide))) .nil) (.cons (.ptr (by decide)) (.pl hl)) (.pl hv) (λe he=>by simp only[List.mem_singleton] at he;subst he;exact(.arg (.here .ptr)))
def ftU{f:FuncId}{l:List AV}{x:Ft}{n:Int}{v:AV}(hS:Sound P G (.call f (.ptr 0 0::l) ⟨[(1,(Ff x.lines)),(0,.cells (Q0 1 x))],2,[],0⟩ (.ret v) ⟨[(1,(Ff x.lines)),(0,.cells (Q0 1 ⟨x.Ae,x.lines,n⟩))],2,[],0⟩))(hl:Bx l=true)(hv:plain v=true)(u0 u1:Nat)(RV:([u0,u1]:List Nat).Nodup:=by decide):Cd.ok P G (.H4 f (.ptr u0 0::l) (.ret v) [(u0,.cells (Q0 u1 x)),(u1,(Ff x.lines))] [] [(u0,.cells (Q0 u1 ⟨x.Ae,x.lines,n⟩)),(u1,(Ff x.lines))] []) :=
 Io (M:=[.cells (Q0 1 x),(Ff x.lines)]) (M2:=[.cells (Q0 1 ⟨x.Ae,x.lines,n⟩),(Ff x.lines)]) (T:=[]) (T2:=[]) (k:=2) (j:=0) Hd.CY _ _ _ _ hS rfl rfl rfl rfl rfl RV .nil rfl rfl (.cons (.cells (adJ x (by decide))) (.cons (FT (λ_=>rfl)) .nil)) (.cons (.cells (adJ ⟨x.Ae,x.lines,n⟩ (by decide))) (.cons (FT (λ_=>rfl)) .nil)) (.cons (.ptr (by decide)) (.pl hl)) (.pl hv) (by
   intro e he;simp only[List.mem_cons,List.not_mem_nil,or_false] at he;rcases he with rfl | rfl
   exact(.arg (.here .ptr));exact(.box (p:=0) (.arg (.here .ptr)) rfl (.there (.there (.there (.here .mp))))))
def trU{f:FuncId}{l:List AV}{t:Tr}{v:AV}(hS:Sound P G (.call f (.ptr 0 0::l) ⟨(g9 t),4,(fZ t),3⟩ (.ret v) ⟨(g9 t),4,(fZ t),3⟩))(hl:Bx l=true)(hv:plain v=true)(u0 u1 u2 u3 v0 v1 v2:Nat)(RV:([u0,u1,u2,u3]:List Nat).Nodup:=by decide)(TE:([v0,v1,v2]:List Nat).Nodup:=by decide):Cd.ok P G (.H4 f (.ptr u0 0::l) (.ret v) [(u0,.cells (gJ v0 v1 v2 u1 u2 u3 t)),(u1,(Fu t.facts)),(u2,(Fu t.lines)),(u3,(Ff t.Ao))] [(v0,t.Ae.facts.length),(v1,t.Ae.lines.length),(v2,t.Ae.Ap.length)] [(u0,.cells (gJ v0 v1 v2 u1 u2 u3 t)),(u1,(Fu t.facts)),(u2,(Fu t.lines)),(u3,(Ff t.Ao))] [(v0,t.Ae.facts.length),(v1,t.Ae.lines.length),(v2,t.Ae.Ap.length)]) :=
 Io (M:=[.cells (gJ 0 1 2 1 2 3 t),(Fu t.facts),(Fu t.lines),(Ff t.Ao)]) (M2:=[.cells (gJ 0 1 2 1 2 3 t),(Fu t.facts),(Fu t.lines),(Ff t.Ao)]) (T:=[t.Ae.facts.length,t.Ae.lines.length,t.Ae.Ap.length]) (T2:=[t.Ae.facts.length,t.Ae.lines.length,t.Ae.Ap.length]) (k:=4) (j:=3) Hd.CY _ _ _ _ hS rfl rfl rfl rfl rfl RV TE rfl rfl (.cons (.cells (wI t (by decide) (by decide) (by decide) (by decide) (by decide) (by decide))) (.cons (FT (λ_=>rfl)) (.cons (FT (λ_=>rfl)) (.cons (FT (λ_=>rfl)) .nil)))) (.cons (.cells (wI t (by decide) (by decide) (by decide) (by decide) (by decide) (by decide))) (.cons (FT (λ_=>rfl)) (.cons (FT (λ_=>rfl)) (.cons (FT (λ_=>rfl)) .nil)))) (.cons (.ptr (by decide)) (.pl hl)) (.pl hv) (by
   intro e he;simp only[List.mem_cons,List.not_mem_nil,or_false] at he;rcases he with rfl | rfl | rfl | rfl
   exact(.arg (.here .ptr));exact(.box (p:=0) (.arg (.here .ptr)) rfl (.there (.there (.there (.here .mp)))));exact(.box (p:=0) (.arg (.here .ptr)) rfl (.there (.there (.there (.there (.here .mp))))));exact(.box (p:=0) (.arg (.here .ptr)) rfl (.there (.there (.there (.there (.there (.here .mp))))))))
def Xi{n m:Nat}(t:Tr)(h0:decide (0 < m)=true:=by rfl)(h1:decide (1 < m)=true:=by rfl)(h2:decide (2 < m)=true:=by rfl)(g1:decide (1 < n)=true:=by rfl)(g2:decide (2 < n)=true:=by rfl)(g3:decide (3 < n)=true:=by rfl):List (FO n m):=[BL t.Ao,Fk t.lines,Fk t.facts,bu (gJ 0 1 2 1 2 3 t) (Se h0 h1 h2 g1 g2 g3)]
def bFn{n m:Nat}:FO n m:=bw (.cells [.fn (.func 61) [] []]) (.cells [.fn (.func 61) [] []]) (.cells (.plain (Aq (oL rfl rfl) rfl)))
end Mo
end Go.Proofs.YtnijkdknnmgoeaaGreat
namespace Go.Proofs.YtnijkdknnmgoeaaGreat
open AI Go
namespace Mo
set_option maxRecDepth 100000
set_option maxHeartbeats 4000000
def I7(Ip:Nd->Int->Option Int)(Be:Int)(i0:Nat)(e0:Nd)(RZ:Int):Option (Lp Int Int Int):=cond (C3 RZ Be) ((Ip e0 (XG Be RZ)).bind λy1=>some (.nx (CE RZ y1))) (some (.ex RZ))
def LN(Ip:Nd->Int->Option Int)(n:Nd)(Be:Int):Option Int:=cond (Iy Be 0) (some 0) ((ED n.kids.length (Au (λi y x=>I7 Ip Be i y x) (λx=>x) (n.kids.drop 0) 0 1)).bind (Eu (λ(aeZ:Int)=>some aeZ) (λv=>some v)))
def YZ(Ip:Nd->Int->Option Int)(iH:∀{n:Nd} {Be:Int} {yR:Int},Ip n Be=some yR->Pure P G 74 [.agg (Dq n),.zi Be] (.zi yR)){n:Nd}{Be:Int}{yR:Int}:LN Ip n Be=some yR->Pure P G 74 [.agg (Dq n),.zi Be] (.zi yR):=by
 refine pM Tryz.func74 (Aq (An.Cv n) (Aq rfl rfl)) rfl ?_;unfold LN;refine Aa (λAx=>?_) λAx=>?_;rintro⟨⟩;exact rT [pb Ax];refine CF (RA Tryz.f74 .zi) 33 [8,13,14,17,18] (λi0 (RZ:Int)=>[(1,.zi Be),(2,.ptr 0 0),(5,.zi RZ),(6,.zi ((i0:Nat):Int))]) (λRZ=>⟨[(0,.cells (Dq n))],1,[],0⟩) [1,2,6] [] 0 (sb (Al Tryz.f74) 244) [.code (sb (Al Tryz.f74) 31)] [pb Ax] ?_ ?_;rintro i0 e0 RZ j0 r B6 Ca BQ k;show I7 Ip Be i0 e0 RZ=some r->_;unfold I7;refine Aa (λAL=>?_) λAL=>?_;refine Ah λy1 CK=>?_;rintro⟨⟩;exact gM [pb (C2 Ca),pb AL,Bq (B0 .lost B6),pk,Ag (iH CK),pk,pi BQ] k;rintro⟨⟩;exact gE [pb (C2 Ca),pb AL] k;rintro aeZ OV;rintro⟨⟩;exact C7 [] .body .sc
def Et:Nat->Nd->Int->Option Int
 | 0,_,_=>none
 | qn+1,n,Be=>LN (Et qn) n Be
def aS:∀qn:Nat,∀{n:Nd} {Be:Int} {yR:Int},Et qn n Be=some yR->Pure P G 74 [.agg (Dq n),.zi Be] (.zi yR):=by
 intro qn
 induction qn with
 | zero=>exact(λh=>by simp only[Et] at h;cases h)
 | succ qn ih=>exact(λh=>YZ (Et qn) ih (by rw[Et] at h;exact h))
def R5(n:Nd)(Be:Int):Option Int:=cA (λqn=>Et qn n Be)
def Uu{n:Nd}{Be:Int}{yR:Int}(h:R5 n Be=some yR):Pure P G 74 [.agg (Dq n),.zi Be] (.zi yR):=by
 obtain⟨qn,h⟩:=Th h;exact(aS qn) h
def MB(n:Nd)(Be:Int):Option Bool:=(R5 n (CE Be 1)).bind λy1=>cond (Iy y1 Be) (some true) (some false)
def MP{n:Nd}{Be:Int}{yR:Bool}:MB  n Be=some yR->Pure P G 42 [.agg (Dq n),.zi Be] (.zb yR):=by
 refine pM Tryz.func42 (Aq (An.Cv n) (Aq rfl rfl)) rfl ?_;unfold MB;refine Ah λy1 CK=>?_;refine Aa (λAx=>?_) λAx=>?_;rintro⟨⟩;exact rT [pk,Ag (Uu CK),pb Ax];rintro⟨⟩;exact rT [pk,Ag (Uu CK),pb Ax]
def OM(Jo:Nd->Int->Option Bool)(Be:Int)(i0:Nat)(e0:Nd) :Option (Lp Unit Unit Bool):=(Jo e0 (XG Be 1)).bind λy1=>cond y1 (some (.nx ())) (some (.rt false))
def P8(Jo:Nd->Int->Option Bool)(n:Nd)(Be:Int):Option Bool:=cond (C3 Be 1) (some false) ((ED n.kids.length (Au (λi y x=>OM Jo Be i y ) (λx=>()) (n.kids.drop 0) 0 ())).bind (Eu (λ(_:Unit)=>some true) (λv=>some v)))
def aY(Jo:Nd->Int->Option Bool)(V3:∀{n:Nd} {Be:Int} {yR:Bool},Jo n Be=some yR->Pure P G 43 [.agg (Dq n),.zi Be] (.zb yR)){n:Nd}{Be:Int}{yR:Bool}:P8 Jo n Be=some yR->Pure P G 43 [.agg (Dq n),.zi Be] (.zb yR):=by
 refine pM Tryz.func43 (Aq (An.Cv n) (Aq rfl rfl)) rfl ?_;unfold P8;refine Aa (λAx=>?_) λAx=>?_;rintro⟨⟩;exact rT [pb Ax];refine CF (RA Tryz.f43 .zb) 24 [4,7,12,22,23] (λi0 (_:Unit)=>[(1,.zi Be),(2,.ptr 0 0),(5,.zi ((i0:Nat):Int))]) (λ_=>⟨[(0,.cells (Dq n))],1,[],0⟩) [1,2,5] [] 0 (sb (Al Tryz.f43) 116) [.code (sb (Al Tryz.f43) 15)] [pb Ax] ?_ ?_;rintro i0 e0 ⟨⟩ j0 r B6 Ca BQ k;show OM Jo Be i0 e0 =some r->_;unfold OM;refine Ah λy1 CK=>?_;refine Aa ?_ ?_;rintro rfl;rintro⟨⟩;exact gM [pb (C2 Ca),Bq (B0 .lost B6),pk,Ag (V3 CK),pi BQ] k;rintro rfl;rintro⟨⟩;exact gA [pb (C2 Ca),Bq (B0 .lost B6),pk,Ag (V3 CK)] (.Dv k) .sc;rintro⟨⟩ OV;rintro⟨⟩;exact C7 [] .body .sc
def H9:Nat->Nd->Int->Option Bool
 | 0,_,_=>none
 | qn+1,n,Be=>P8 (H9 qn) n Be
def fQ:∀qn:Nat,∀{n:Nd} {Be:Int} {yR:Bool},H9 qn n Be=some yR->Pure P G 43 [.agg (Dq n),.zi Be] (.zb yR):=by
 intro qn
 induction qn with
 | zero=>exact(λh=>by simp only[H9] at h;cases h)
 | succ qn ih=>exact(λh=>aY (H9 qn) ih (by rw[H9] at h;exact h))
def NF(n:Nd)(Be:Int):Option Bool:=cA (λqn=>H9 qn n Be)
def VV{n:Nd}{Be:Int}{yR:Bool}(h:NF n Be=some yR):Pure P G 43 [.agg (Dq n),.zi Be] (.zb yR):=by
 obtain⟨qn,h⟩:=Th h;exact(fQ qn) h
def NW(n:Nd):Option Bool:=(MB n 2100).bind λy1=>cond y1 ((NF n 100).bind λy2=>some y2) (some false)
def bE{n:Nd}{yR:Bool}:NW  n=some yR->Pure P G 12 [.agg (Dq n)] (.zb yR):=by
 refine pM Tryz.func12 (Aq (An.Cv n) rfl) rfl ?_;unfold NW;refine Ah λy1 CK=>?_;refine Aa ?_ ?_;rintro rfl;refine Ah λy2 E7=>?_;rintro⟨⟩;exact rT [Ag (MP CK),Ag (VV E7)];rintro rfl;rintro⟨⟩;exact rT [Ag (MP CK)]
def M9(Il:Ex->Int->Option Int)(Be:Int)(i0:Nat)(e0:Ex)(n5:Int):Option (Lp Int Int Int):=cond (C3 n5 Be) ((Il e0 (XG Be n5)).bind λy1=>some (.nx (CE n5 y1))) (some (.ex n5))
def OE(Il:Ex->Int->Option Int)(e:Ex)(Be:Int):Option Int:=cond (Iy Be 0) (some 0) ((ED e.kids.length (Au (λi y x=>M9 Il Be i y x) (λx=>x) (e.kids.drop 0) 0 1)).bind (Eu (λ(apy:Int)=>some apy) (λv=>some v)))
def ZN(Il:Ex->Int->Option Int)(iA:∀{e:Ex} {Be:Int} {yR:Int},Il e Be=some yR->Pure P G 118 [.agg (Fp e),.zi Be] (.zi yR)){e:Ex}{Be:Int}{yR:Int}:OE Il e Be=some yR->Pure P G 118 [.agg (Fp e),.zi Be] (.zi yR):=by
 refine pM Tryz.func118 (Aq (AO.Cv e) (Aq rfl rfl)) rfl ?_;unfold OE;refine Aa (λAx=>?_) λAx=>?_;rintro⟨⟩;exact rT [pb Ax];refine CF (RA Tryz.f118 .zi) 33 [8,13,14,17,18] (λi0 (n5:Int)=>[(1,.zi Be),(2,.ptr 0 0),(5,.zi n5),(6,.zi ((i0:Nat):Int))]) (λn5=>⟨[(0,.cells (Fp e))],1,[],0⟩) [1,2,6] [] 0 (sb (Al Tryz.f118) 244) [.code (sb (Al Tryz.f118) 31)] [pb Ax] ?_ ?_;rintro i0 e0 n5 j0 r B6 Ca BQ k;show M9 Il Be i0 e0 n5=some r->_;unfold M9;refine Aa (λAL=>?_) λAL=>?_;refine Ah λy1 CK=>?_;rintro⟨⟩;exact gM [pb (C2 Ca),pb AL,Bq (Ep .lost B6),pk,Ag (iA CK),pk,pi BQ] k;rintro⟨⟩;exact gE [pb (C2 Ca),pb AL] k;rintro apy OV;rintro⟨⟩;exact C7 [] .body .sc
def G7:Nat->Ex->Int->Option Int
 | 0,_,_=>none
 | qn+1,e,Be=>OE (G7 qn) e Be
def bC:∀qn:Nat,∀{e:Ex} {Be:Int} {yR:Int},G7 qn e Be=some yR->Pure P G 118 [.agg (Fp e),.zi Be] (.zi yR):=by
 intro qn
 induction qn with
 | zero=>exact(λh=>by simp only[G7] at h;cases h)
 | succ qn ih=>exact(λh=>ZN (G7 qn) ih (by rw[G7] at h;exact h))
def RY(e:Ex)(Be:Int):Option Int:=cA (λqn=>G7 qn e Be)
def Uw{e:Ex}{Be:Int}{yR:Int}(h:RY e Be=some yR):Pure P G 118 [.agg (Fp e),.zi Be] (.zi yR):=by
 obtain⟨qn,h⟩:=Th h;exact(bC qn) h
def Ir(e:Ex)(Be:Int):Option Bool:=(RY e (CE Be 1)).bind λy1=>cond (Iy y1 Be) (some true) (some false)
def Hp{e:Ex}{Be:Int}{yR:Bool}:Ir  e Be=some yR->Pure P G 75 [.agg (Fp e),.zi Be] (.zb yR):=by
 refine pM Tryz.func75 (Aq (AO.Cv e) (Aq rfl rfl)) rfl ?_;unfold Ir;refine Ah λy1 CK=>?_;refine Aa (λAx=>?_) λAx=>?_;rintro⟨⟩;exact rT [pk,Ag (Uw CK),pb Ax];rintro⟨⟩;exact rT [pk,Ag (Uw CK),pb Ax]
def Nq(Be:Int)(i1:Nat)(e1:Ex) :Option (Lp Unit Unit Bool):=(Ir e1 Be).bind λy2=>cond y2 (some (.nx ())) (some (.rt false))
def P0(Be:Int)(i0:Nat)(e0:Ar) :Option (Lp Unit Unit Bool):=cond (C3 40 ((e0.wh.length:Nat):Int)) (some (.rt false)) (cond (C3 80 ((e0.un.length:Nat):Int)) (some (.rt false)) ((Ir e0.am Be).bind λy1=>cond y1 ((ED e0.wh.length (Au (λi y x=>Nq  Be i y ) (λx=>()) (e0.wh.drop 0) 0 ())).bind (Eu (λ(_:Unit)=>some (.nx ())) (λv=>some (.rt v)))) (some (.rt false))))
def RE(c:Co)(Be:Int):Option Bool:=cond (C3 40 ((c.facts.length:Nat):Int)) (some false) (cond (C3 40 ((c.lines.length:Nat):Int)) (some false) (cond (C3 70 ((c.Ap.length:Nat):Int)) (some false) ((ED c.Ap.length (Au (λi y x=>P0  Be i y ) (λx=>()) (c.Ap.drop 0) 0 ())).bind (Eu (λ(_:Unit)=>some true) (λv=>some v)))))
def iK{c:Co}{Be:Int}{yR:Bool}:RE  c Be=some yR->Pure P G 44 [.agg (Ko c),.zi Be] (.zb yR):=by
 refine pM Tryz.func44 (Aq (Cj.Cv c) (Aq rfl rfl)) rfl ?_;unfold RE;refine Aa (λAx=>?_) λAx=>?_;rintro⟨⟩;exact rT [pb Ax];refine Aa (λAL=>?_) λAL=>?_;rintro⟨⟩;exact rT [pb Ax,pb AL];refine Aa (λBg=>?_) λBg=>?_;rintro⟨⟩;exact rT [pb Ax,pb AL,pb Bg];refine CF (RA Tryz.f44 .zb) 68 [4,11,12,16,17,18,22,23,28,39,40,44,45,46,50,51,52,57,66,67] (λi0 (_:Unit)=>[(1,.zi Be),(2,.ptr 0 0),(5,.zi ((i0:Nat):Int))]) (λ_=>⟨[(0,.cells (Ko c))],1,[],0⟩) [1,2,5] [] 0 (sb (Al Tryz.f44) 116) [.code (sb (Al Tryz.f44) 15)] [pb Ax,pb AL,pb Bg] ?_ ?_;rintro i0 e0 ⟨⟩ j0 r B6 Ca BQ k;show P0  Be i0 e0 =some r->_;unfold P0;let o1:LP:=[pb (C2 Ca),Bq (bD .lost B6)];refine Aa (λBu=>?_) λBu=>?_;rintro⟨⟩;exact gA (o1++[pb Bu]) (.Dv k) .sc;refine Aa (λBA=>?_) λBA=>?_;rintro⟨⟩;exact gA (o1++[pb Bu,pb BA]) (.Dv k) .sc;refine Ah λy1 CK=>?_;refine Aa ?_ ?_;rintro rfl;refine CF (RA Tryz.f44 .zb) 68 [4,11,12,16,17,18,22,23,28,39,40,44,45,46,50,51,52,57,66,67] (λi1 (_:Unit)=>[(1,.zi Be),(2,.ptr 0 0),(5,.zi ((i0:Nat):Int)),(6,.ptr 1 0),(7,.zi ((i1:Nat):Int))]) (λ_=>⟨[(1,.cells (It e0)),(0,.cells (Ko c))],2,[],0⟩) [6,7] [] 2 (sb (Al Tryz.f44) 29852) [.Px 1,.code (sb (Al Tryz.f44) 467)] (o1++[pb Bu,pb BA,Ag (Hp CK)]) ?_ ?_ (hr:=λv h=>by cases h;exact .outer (.Dv k));rintro i1 e1 ⟨⟩ j1 r Uh S5 Xj k;show Nq  Be i1 e1 =some r->_;unfold Nq;refine Ah λy2 E7=>?_;refine Aa ?_ ?_;rintro rfl;rintro⟨⟩;exact gM [pb (C2 S5),Bq (Ep .lost Uh),Ag (Hp E7),pi Xj] k;rintro rfl;rintro⟨⟩;exact gA [pb (C2 S5),Bq (Ep .lost Uh),Ag (Hp E7)] (.Dv k) .sc;rintro⟨⟩ Zv;rintro⟨⟩;exact gNB [] [bp (Cj.pl c)] [pi BQ] k;rintro rfl;rintro⟨⟩;exact gA (o1++[pb Bu,pb BA,Ag (Hp CK)]) (.Dv k) .sc;rintro⟨⟩ YM;rintro⟨⟩;exact C7 [] .body .sc
def LK(c:Co):Option Bool:=(RE c 420).bind λy1=>some y1
def Y1{c:Co}{yR:Bool}:LK  c=some yR->Pure P G 13 [.agg (Ko c)] (.zb yR):=by
 refine pM Tryz.func13 (Aq (Cj.Cv c) rfl) rfl ?_;unfold LK;refine Ah λy1 CK=>?_;rintro⟨⟩;exact rT [Ag (iK CK)]
def B4(c:Ck)(n:Nd)(depth:Int):Option (Bool×Int):=cond (Iy (CE c.nodes 1) 2000) ((some (Iy depth 40)).bind λq1=>some (q1,(CE c.nodes 1))) (some (false,(CE c.nodes 1)))
def FF{c:Ck}{n:Nd}{depth:Int}{yR:Bool}{Ai:Int}(hS:Sound P G (.call 77 [.ptr 0 0,.agg (Dq n),.zi depth] ⟨[(0,.cells (LH c))],1,[],0⟩ (.ret (.zb yR)) ⟨[(0,.cells (LH ⟨Ai⟩))],1,[],0⟩)):=@ckU _ _ _ _ _ hS (Aq (An.Cv n) (Aq rfl rfl)) rfl
def Er{c:Ck}{n:Nd}{depth:Int}{yR:Bool}{Ai:Int}:B4  c n depth=some (yR,Ai)->Sound P G (.call 77 [.ptr 0 0,.agg (Dq n),.zi depth] ⟨[(0,.cells (LH c))],1,[],0⟩ (.ret (.zb yR)) ⟨[(0,.cells (LH ⟨Ai⟩))],1,[],0⟩):=by
 refine sM Tryz.func77 ?_;unfold B4;refine Aa (λAx=>?_) λAx=>?_;refine Ah λq1 hq1=>?_;rintro⟨⟩;exact gR [] [none] [pk,pb Ax,Dx (apE hq1 (.tmp 20) (.const (.int .i64 40)))];rintro⟨⟩;exact gR [] [none] [pk,pb Ax]
def Ns(s2:(List Pc))(i0:Nat)(e0:Pc) :Option (Lp Unit Unit Bool):=(s2[i0]?).bind λx1=>cond (Qf e0 x1) (some (.nx ())) (some (.rt false))
def Hc(s1:(List Pc))(s2:(List Pc)):Option Bool:=cond (Ba ((s1.length:Nat):Int) ((s2.length:Nat):Int)) ((ED s1.length (Au (λi y x=>Ns  s2 i y ) (λx=>()) (s1.drop 0) 0 ())).bind (Eu (λ(_:Unit)=>some true) (λv=>some v))) (some false)
def Qt{s1:(List Pc)}{s2:(List Pc)}{yR:Bool}:Hc  s1 s2=some yR->Pure P G 100 [.sl .lost s1.length (rows Jc s1),.sl .lost s2.length (rows Jc s2)] (.zb yR):=by
 refine pM Tryz.func100 (Aq (C4.Bk s1) (Aq (C4.Bk s2) rfl)) rfl ?_;unfold Hc;refine Aa (λAx=>?_) λAx=>?_;refine CF (RA Tryz.f100 .zb) 26 [4,10,14,24] (λi0 (_:Unit)=>[(0,.sl .lost s1.length (rows Jc s1)),(1,.sl .lost s2.length (rows Jc s2)),(12,.zi ((s1.length:Nat):Int)),(13,.zi ((i0:Nat):Int))]) (λ_=>⟨[],0,[],0⟩) [0,1,12,13] [] 0 (sb (Al Tryz.f100) 116) [.code (sb (Al Tryz.f100) 15)] [pn Ax] ?_ ?_;rintro i0 e0 ⟨⟩ j0 r B6 Ca BQ k;show Ns  s2 i0 e0 =some r->_;unfold Ns;refine Ah λx1 Kn=>?_;refine Aa (λAL=>?_) λAL=>?_;rintro⟨⟩;exact gM [pb (C2 Ca),Bq (Yx .lost B6),Bq (Yx .lost Kn),Dx (oF AL (.tmp 19) (.tmp 23)),pi BQ] k;rintro⟨⟩;exact gA [pb (C2 Ca),Bq (Yx .lost B6),Bq (Yx .lost Kn),Dx (oF AL (.tmp 19) (.tmp 23))] (.Dv k) .sc;rintro⟨⟩ OV;rintro⟨⟩;exact C7 [] .body .sc;rintro⟨⟩;exact rT [pn Ax]
def BJ(n:Nd)(fields:Nd):Option Bool:=cond (By n.name.data.toList fields.name.data.toList) (cond (By n.unit.data.toList fields.unit.data.toList) (cond (Ba n.n fields.n) (cond (Ba n.fr fields.fr) (cond (Ba n.to fields.to) (cond (Ba n.known fields.known) (cond (Ba n.BX.den fields.BX.den) ((Hc n.BX.ps fields.BX.ps).bind λy1=>some y1) (some false)) (some false)) (some false)) (some false)) (some false)) (some false)) (some false)
def BS{n:Nd}{fields:Nd}{yR:Bool}:BJ  n fields=some yR->Pure P G 78 [.agg (Dq n),.agg (Dq fields)] (.zb yR):=by
 refine pM Tryz.func78 (Aq (An.Cv n) (Aq (An.Cv fields) rfl)) rfl ?_;unfold BJ;refine Aa (λAx=>?_) λAx=>?_;refine Aa (λAL=>?_) λAL=>?_;let o1:LP:=[pn Ax,pn AL];refine Aa (λBg=>?_) λBg=>?_;refine Aa (λBu=>?_) λBu=>?_;refine Aa (λBA=>?_) λBA=>?_;refine Aa (λBC=>?_) λBC=>?_;refine Aa (λB7=>?_) λB7=>?_;refine Ah λy1 CK=>?_;rintro⟨⟩;exact rT (o1++[pn Bg,pn Bu,pn BA,pn BC,pb B7,Ag (Qt CK)]);rintro⟨⟩;exact rT (o1++[pn Bg,pn Bu,pn BA,pn BC,pb B7]);rintro⟨⟩;exact rT (o1++[pn Bg,pn Bu,pn BA,pn BC]);rintro⟨⟩;exact rT (o1++[pn Bg,pn Bu,pn BA]);rintro⟨⟩;exact rT (o1++[pn Bg,pn Bu]);rintro⟨⟩;exact rT (o1++[pn Bg]);rintro⟨⟩;exact rT [pn Ax,pn AL];rintro⟨⟩;exact rT [pn Ax]
def Kg(i0:Nat)(e0:UInt8) :Option (Lp Unit Unit Bool):=cond (C3 ((e0.toNat:Nat):Int) 65) (some (.rt false)) (cond (C3 90 ((e0.toNat:Nat):Int)) (some (.rt false)) (some (.nx ())))
def IQ(text:ByteArray):Option Bool:=cond (Ba ((text.data.toList.length:Nat):Int) 3) ((ED text.data.toList.length (Au (λi y x=>Kg   i y ) (λx=>()) (text.data.toList.drop 0) 0 ())).bind (Eu (λ(_:Unit)=>some true) (λv=>some v))) (some false)
def Vz{text:ByteArray}{yR:Bool}:IQ  text=some yR->Pure P G 161 [.zs text] (.zb yR):=by
 refine pM Tryz.func161 (Aq rfl rfl) rfl ?_;unfold IQ;refine Aa (λAx=>?_) λAx=>?_;refine CF (RA Tryz.f161 .zb) 23 [2,6,10,15,16,20,21] (λi0 (_:Unit)=>[(0,.zs text),(8,.zi ((text.data.toList.length:Nat):Int)),(9,.zi ((i0:Nat):Int))]) (λ_=>⟨[],0,[],0⟩) [0,8,9] [] 0 (sb (Al Tryz.f161) 116) [.code (sb (Al Tryz.f161) 15)] [pn Ax] ?_ ?_;rintro i0 e0 ⟨⟩ j0 r B6 Ca BQ k;show Kg   i0 e0 =some r->_;unfold Kg;refine Aa (λAL=>?_) λAL=>?_;rintro⟨⟩;exact gA [pb (C2 Ca),b9 (P3 B6),pb AL] (.Dv k) .sc;refine Aa (λBg=>?_) λBg=>?_;rintro⟨⟩;exact gA [pb (C2 Ca),b9 (P3 B6),pb AL,b9 (P3 B6),pb Bg] (.Dv k) .sc;rintro⟨⟩;exact gM [pb (C2 Ca),b9 (P3 B6),pb AL,b9 (P3 B6),pb Bg,pi BQ] k;rintro⟨⟩ nG;rintro⟨⟩;exact C7 [] .body .sc;rintro⟨⟩;exact rT [pn Ax]
def Fa(text:ByteArray):Option Bool:=cond (By text.data.toList Ak.data.toList) (some true) (cond (By text.data.toList AF.data.toList) (some true) (cond (By text.data.toList B2.data.toList) (some true) ((IQ text).bind λy1=>some y1)))
def Gi{text:ByteArray}{yR:Bool}:Fa  text=some yR->Pure P G 119 [.zs text] (.zb yR):=by
 refine pM Tryz.func119 (Aq rfl rfl) rfl ?_;unfold Fa;refine Aa (λAx=>?_) λAx=>?_;rintro⟨⟩;exact rT [pb Ax];refine Aa (λAL=>?_) λAL=>?_;rintro⟨⟩;exact rT [pb Ax,pb AL];refine Aa (λBg=>?_) λBg=>?_;rintro⟨⟩;exact rT [pb Ax,pb AL,pb Bg];refine Ah λy1 CK=>?_;rintro⟨⟩;exact rT [pb Ax,pb AL,pb Bg,Ag (Vz CK)]
def HB(word:ByteArray):Option Bool:=cond (By word.data.toList dD.data.toList) (some true) (cond (By word.data.toList eU.data.toList) (some true) (cond (By word.data.toList QN.data.toList) (some true) (cond (By word.data.toList vQ.data.toList) (some true) (cond (By word.data.toList fD.data.toList) (some true) (cond (By word.data.toList hD.data.toList) (some true) (cond (By word.data.toList toS.data.toList) (some true) (cond (By word.data.toList Xb.data.toList) (some true) (cond (By word.data.toList eN.data.toList) (some true) (cond (By word.data.toList Tv.data.toList) (some true) (cond (By word.data.toList S3.data.toList) (some true) (cond (By word.data.toList Ak.data.toList) (some true) (cond (By word.data.toList AF.data.toList) (some true) (cond (By word.data.toList B2.data.toList) (some true) (cond (By word.data.toList wN.data.toList) (some true) (cond (By word.data.toList fX.data.toList) (some true) (cond (By word.data.toList TH.data.toList) (some true) (cond (By word.data.toList Wj.data.toList) (some true) (cond (By word.data.toList fR.data.toList) (some true) (cond (By word.data.toList bR.data.toList) (some true) (cond (By word.data.toList Mp.data.toList) (some true) (cond (By word.data.toList wU.data.toList) (some true) (cond (By word.data.toList aW.data.toList) (some true) (cond (By word.data.toList iB.data.toList) (some true) (cond (By word.data.toList WO.data.toList) (some true) (cond (By word.data.toList xY.data.toList) (some true) (cond (By word.data.toList EH.data.toList) (some true) (cond (By word.data.toList SP.data.toList) (some true) (cond (By word.data.toList Ja.data.toList) (some true) (cond (By word.data.toList Mz.data.toList) (some true) (cond (By word.data.toList Ni.data.toList) (some true) (cond (By word.data.toList FM.data.toList) (some true) (cond (By word.data.toList Wr.data.toList) (some true) (some false)))))))))))))))))))))))))))))))))
def Rb{word:ByteArray}{yR:Bool}:HB  word=some yR->Pure P G 162 [.zs word] (.zb yR):=by
 refine pM Tryz.func162 (Aq rfl rfl) rfl ?_;unfold HB;refine Aa (λAx=>?_) λAx=>?_;rintro⟨⟩;exact rT [pb Ax];let o1:LP:=[pb Ax];refine Aa (λAL=>?_) λAL=>?_;rintro⟨⟩;exact rT (o1++[pb AL]);let o2:LP:=o1++[pb AL];refine Aa (λBg=>?_) λBg=>?_;rintro⟨⟩;exact rT (o2++[pb Bg]);let o3:LP:=o2++[pb Bg];refine Aa (λBu=>?_) λBu=>?_;rintro⟨⟩;exact rT (o3++[pb Bu]);let o4:LP:=o3++[pb Bu];refine Aa (λBA=>?_) λBA=>?_;rintro⟨⟩;exact rT (o4++[pb BA]);let o5:LP:=o4++[pb BA];refine Aa (λBC=>?_) λBC=>?_;rintro⟨⟩;exact rT (o5++[pb BC]);let o6:LP:=o5++[pb BC];refine Aa (λB7=>?_) λB7=>?_;rintro⟨⟩;exact rT (o6++[pb B7]);let o7:LP:=o6++[pb B7];refine Aa (λCX=>?_) λCX=>?_;rintro⟨⟩;exact rT (o7++[pb CX]);let o8:LP:=o7++[pb CX];refine Aa (λDR=>?_) λDR=>?_;rintro⟨⟩;exact rT (o8++[pb DR]);let o9:LP:=o8++[pb DR];refine Aa (λBM=>?_) λBM=>?_;rintro⟨⟩;exact rT (o9++[pb BM]);let So:LP:=o9++[pb BM];refine Aa (λCL=>?_) λCL=>?_;rintro⟨⟩;exact rT (So++[pb CL]);let Sn:LP:=So++[pb CL];refine Aa (λCs=>?_) λCs=>?_;rintro⟨⟩;exact rT (Sn++[pb Cs]);let Tg:LP:=Sn++[pb Cs];refine Aa (λDh=>?_) λDh=>?_;rintro⟨⟩;exact rT (Tg++[pb Dh]);let TT:LP:=Tg++[pb Dh];refine Aa (λDG=>?_) λDG=>?_;rintro⟨⟩;exact rT (TT++[pb DG]);let cH:LP:=TT++[pb DG];refine Aa (λDp=>?_) λDp=>?_;rintro⟨⟩;exact rT (cH++[pb Dp]);let aA:LP:=cH++[pb Dp];refine Aa (λEj=>?_) λEj=>?_;rintro⟨⟩;exact rT (aA++[pb Ej]);let WT:LP:=aA++[pb Ej];refine Aa (λF0=>?_) λF0=>?_;rintro⟨⟩;exact rT (WT++[pb F0]);let gT:LP:=WT++[pb F0];refine Aa (λGL=>?_) λGL=>?_;rintro⟨⟩;exact rT (gT++[pb GL]);let pC:LP:=gT++[pb GL];refine Aa (λKF=>?_) λKF=>?_;rintro⟨⟩;exact rT (pC++[pb KF]);let uX:LP:=pC++[pb KF];refine Aa (λKz=>?_) λKz=>?_;rintro⟨⟩;exact rT (uX++[pb Kz]);let qL:LP:=uX++[pb Kz];refine Aa (λN4=>?_) λN4=>?_;rintro⟨⟩;exact rT (qL++[pb N4]);let o21:LP:=qL++[pb N4];refine Aa (λLu=>?_) λLu=>?_;rintro⟨⟩;exact rT (o21++[pb Lu]);let o22:LP:=o21++[pb Lu];refine Aa (λMZ=>?_) λMZ=>?_;rintro⟨⟩;exact rT (o22++[pb MZ]);let o23:LP:=o22++[pb MZ];refine Aa (λT9=>?_) λT9=>?_;rintro⟨⟩;exact rT (o23++[pb T9]);let o24:LP:=o23++[pb T9];refine Aa (λRH=>?_) λRH=>?_;rintro⟨⟩;exact rT (o24++[pb RH]);refine Aa (λWW=>?_) λWW=>?_;rintro⟨⟩;exact rT (o24++[pb RH,pb WW]);let o25:LP:=o24++[pb RH,pb WW];refine Aa (λQ9=>?_) λQ9=>?_;rintro⟨⟩;exact rT (o25++[pb Q9]);refine Aa (λXL=>?_) λXL=>?_;rintro⟨⟩;exact rT (o25++[pb Q9,pb XL]);let o26:LP:=o25++[pb Q9,pb XL];refine Aa (λVQ=>?_) λVQ=>?_;rintro⟨⟩;exact rT (o26++[pb VQ]);refine Aa (λVE=>?_) λVE=>?_;rintro⟨⟩;exact rT (o26++[pb VQ,pb VE]);refine Aa (λUX=>?_) λUX=>?_;rintro⟨⟩;exact rT (o26++[pb VQ,pb VE,pb UX]);refine Aa (λYS=>?_) λYS=>?_;rintro⟨⟩;exact rT (o26++[pb VQ,pb VE,pb UX,pb YS]);refine Aa (λsX=>?_) λsX=>?_;rintro⟨⟩;exact rT (o26++[pb VQ,pb VE,pb UX,pb YS,pb sX]);rintro⟨⟩;exact rT (o26++[pb VQ,pb VE,pb UX,pb YS,pb sX])
def HG(i0:Nat)(e0:UInt8) :Option (Lp Unit Unit Bool):=cond (C3 ((e0.toNat:Nat):Int) 97) (cond (C3 ((e0.toNat:Nat):Int) 48) (some (.rt false)) (cond (C3 57 ((e0.toNat:Nat):Int)) (cond (Ba ((e0.toNat:Nat):Int) 95) (some (.nx ())) (some (.rt false))) (some (.nx ())))) (cond (C3 122 ((e0.toNat:Nat):Int)) (some (.rt false)) (some (.nx ())))
def Di(text:ByteArray):Option Bool:=cond (By text.data.toList ByteArray.empty.data.toList) (some false) (cond (C3 16 ((text.data.toList.length:Nat):Int)) (some false) ((text.data.toList[0]?).bind λc1=>cond (C3 ((c1.toNat:Nat):Int) 97) (some false) (cond (C3 122 ((c1.toNat:Nat):Int)) (some false) ((HB text).bind λy2=>cond y2 (some false) ((ED text.data.toList.length (Au (λi y x=>HG   i y ) (λx=>()) (text.data.toList.drop 0) 0 ())).bind (Eu (λ(_:Unit)=>some true) (λv=>some v)))))))
def H8{text:ByteArray}{yR:Bool}:Di  text=some yR->Pure P G 120 [.zs text] (.zb yR):=by
 refine pM Tryz.func120 (Aq rfl rfl) rfl ?_;unfold Di;refine Aa (λAx=>?_) λAx=>?_;rintro⟨⟩;exact rT [pb Ax];refine Aa (λAL=>?_) λAL=>?_;rintro⟨⟩;exact rT [pb Ax,pb AL];refine Ah λc1 n7=>?_;let o1:LP:=[pb Ax,pb AL,b9 (P3 n7)];refine Aa (λBg=>?_) λBg=>?_;rintro⟨⟩;exact rT (o1++[pb Bg]);refine Aa (λBu=>?_) λBu=>?_;rintro⟨⟩;exact rT (o1++[pb Bg,b9 (P3 n7),pb Bu]);refine Ah λy2 E7=>?_;refine Aa ?_ ?_;rintro rfl;rintro⟨⟩;exact rT (o1++[pb Bg,b9 (P3 n7),pb Bu,Ag (Rb E7)]);rintro rfl;refine CF (RA Tryz.f120 .zb) 53 [2,6,7,10,11,12,15,16,17,20,21,22,24,25,29,35,36,38,39,40,42,43,45,46,47,48,50,51] (λi0 (_:Unit)=>[(0,.zs text),(27,.zi ((text.data.toList.length:Nat):Int)),(28,.zi ((i0:Nat):Int))]) (λ_=>⟨[],0,[],0⟩) [0,27,28] [] 0 (sb (Al Tryz.f120) 116) [.code (sb (Al Tryz.f120) 15)] (o1++[pb Bg,b9 (P3 n7),pb Bu,Ag (Rb E7)]) ?_ ?_;rintro i0 e0 ⟨⟩ j0 r B6 Ca BQ k;show HG   i0 e0 =some r->_;unfold HG;let o2:LP:=[pb (C2 Ca),b9 (P3 B6)];refine Aa (λBA=>?_) λBA=>?_;refine Aa (λBC=>?_) λBC=>?_;rintro⟨⟩;exact gA (o2++[pb BA,pb BC,pn (B:=Ba ((e0.toNat:Nat):Int) 95) (b:=false) (akb (by have:=TM BA;have:=TM BC;omega))]) (.Dv k) .sc;refine Aa (λB7=>?_) λB7=>?_;refine Aa (λCX=>?_) λCX=>?_;rintro⟨⟩;exact gM (o2++[pb BA,pb BC,pb B7,pn CX,pi BQ]) k;rintro⟨⟩;exact gA (o2++[pb BA,pb BC,pb B7,pn CX]) (.Dv k) .sc;rintro⟨⟩;exact gM (o2++[pb BA,pb BC,pb B7,pi BQ]) k;refine Aa (λDR=>?_) λDR=>?_;rintro⟨⟩;exact gA (o2++[pb BA,pb DR,pb (B:=C3 ((e0.toNat:Nat):Int) 48) (b:=false) (zY (by have:=aet BA;have:=TM DR;omega)),pb (B:=C3 57 ((e0.toNat:Nat):Int)) (b:=true) (apK (by have:=aet BA;have:=TM DR;omega)),pn (B:=Ba ((e0.toNat:Nat):Int) 95) (b:=false) (akb (by have:=aet BA;have:=TM DR;omega))]) (.Dv k) .sc;rintro⟨⟩;exact gM (o2++[pb BA,pb DR,pi BQ]) k;rintro⟨⟩ Zv;rintro⟨⟩;exact C7 [] .body .sc
def DW(n:Int):Option Bool:=cond (Iy 1 n) (cond (Iy n 1000000) (some true) (some false)) (some false)
def HH{n:Int}{yR:Bool}:DW  n=some yR->Pure P G 121 [.zi n] (.zb yR):=by
 refine pM Tryz.func121 (Aq rfl rfl) rfl ?_;unfold DW;refine Aa (λAx=>?_) λAx=>?_;refine Aa (λAL=>?_) λAL=>?_;rintro⟨⟩;exact rT [pb Ax,pb AL];rintro⟨⟩;exact rT [pb Ax,pb AL];rintro⟨⟩;exact rT [pb Ax]
def GO(word:ByteArray):Option Bool:=cond (By word.data.toList EH.data.toList) (some true) (cond (By word.data.toList SP.data.toList) (some true) (cond (By word.data.toList Ja.data.toList) (some true) (cond (By word.data.toList Mz.data.toList) (some true) (some false))))
def Tm{word:ByteArray}{yR:Bool}:GO  word=some yR->Pure P G 122 [.zs word] (.zb yR):=by
 refine pM Tryz.func122 (Aq rfl rfl) rfl ?_;unfold GO;refine Aa (λAx=>?_) λAx=>?_;rintro⟨⟩;exact rT [pb Ax];refine Aa (λAL=>?_) λAL=>?_;rintro⟨⟩;exact rT [pb Ax,pb AL];refine Aa (λBg=>?_) λBg=>?_;rintro⟨⟩;exact rT [pb Ax,pb AL,pb Bg];refine Aa (λBu=>?_) λBu=>?_;rintro⟨⟩;exact rT [pb Ax,pb AL,pb Bg,pb Bu];rintro⟨⟩;exact rT [pb Ax,pb AL,pb Bg,pb Bu]
def IC(f:Fn)(i0:Nat)(e0:Pc) :Option (Lp Unit Unit Bool):=cond (C3 999999999999 e0.fr) (some (.rt false)) (cond (C3 0 ((i0:Nat):Int)) ((Cn f.ps (XG ((i0:Nat):Int) 1)).bind λx3=>cond (Iy e0.fr x3.fr) (some (.rt false)) ((jF e0.Ct f.den).bind λz4=>cond (Ba z4 0) (cond (C3 (jX 999999999999 f.den) e0.Ct) (some (.rt false)) (cond (C3 e0.Ct (jX (-999999999999) f.den)) (some (.rt false)) (cond (C3 1000000 e0.Iz) (some (.rt false)) (cond (C3 e0.Iz (-1000000)) (some (.rt false)) (some (.nx ())))))) (some (.rt false)))) ((jF e0.Ct f.den).bind λz5=>cond (Ba z5 0) (cond (C3 (jX 999999999999 f.den) e0.Ct) (some (.rt false)) (cond (C3 e0.Ct (jX (-999999999999) f.den)) (some (.rt false)) (cond (C3 1000000 e0.Iz) (some (.rt false)) (cond (C3 e0.Iz (-1000000)) (some (.rt false)) (some (.nx ())))))) (some (.rt false))))
def Hv(f:Fn):Option Bool:=(DW f.den).bind λy1=>cond y1 (cond (C3 ((f.ps.length:Nat):Int) 1) (some false) (cond (C3 64 ((f.ps.length:Nat):Int)) (some false) ((f.ps[0]?).bind λx2=>cond (Ba x2.fr 0) ((ED f.ps.length (Au (λi y x=>IC  f i y ) (λx=>()) (f.ps.drop 0) 0 ())).bind (Eu (λ(_:Unit)=>some true) (λv=>some v))) (some false)))) (some false)
def JW{f:Fn}{yR:Bool}:Hv  f=some yR->Pure P G 124 [.agg (qQ f)] (.zb yR):=by
 refine pM Tryz.func124 (Aq (OW.Cv f) rfl) rfl ?_;unfold Hv;refine Ah λy1 CK=>?_;let o1:LP:=[Ag (HH CK)];refine Aa ?_ ?_;rintro rfl;refine Aa (λAx=>?_) λAx=>?_;rintro⟨⟩;exact rT (o1++[pb Ax]);refine Aa (λAL=>?_) λAL=>?_;rintro⟨⟩;exact rT (o1++[pb Ax,pb AL]);refine Ah λx2 Pp=>?_;refine Aa (λBg=>?_) λBg=>?_;refine CF (RA Tryz.f124 .zb) 87 [2,7,8,9,13,14,15,19,20,21,27,28,33,39,40,42,43,53,54,55,61,62,68,69,70,76,77,80,81,84,85] (λi0 (_:Unit)=>[(1,.ptr 0 0),(30,.sl .lost f.ps.length (rows Jc f.ps)),(31,.zi ((f.ps.length:Nat):Int)),(32,.zi ((i0:Nat):Int))]) (λ_=>⟨[(0,.cells (qQ f))],1,[],0⟩) [1,30,31,32] [] 0 (sb (Al Tryz.f124) 116) [.code (sb (Al Tryz.f124) 15)] (o1++[pb Ax,pb AL,Bq (Yx .lost Pp),pn Bg]) ?_ ?_;rintro i0 e0 ⟨⟩ j0 r B6 Ca BQ k;show IC  f i0 e0 =some r->_;unfold IC;let o2:LP:=[pb (C2 Ca),Bq (Yx .lost B6)];refine Aa (λBu=>?_) λBu=>?_;rintro⟨⟩;exact gA (o2++[pb Bu]) (.Dv k) .sc;let o3:LP:=o2++[pb Bu];refine Aa (λBA=>?_) λBA=>?_;refine Ah λx3 lJ=>?_;let o4:LP:=o3++[pb BA,pk,Bq (lP .lost lJ)];refine Aa (λBC=>?_) λBC=>?_;rintro⟨⟩;exact gA (o4++[pb BC]) (.Dv k) .sc;refine Ah λz4 hz4=>?_;let o5:LP:=o4++[pb BC,Dx (pX hz4 (.tmp 57) (.tmp 59))];refine Aa (λB7=>?_) λB7=>?_;refine Aa (λCX=>?_) λCX=>?_;rintro⟨⟩;exact gA (o5++[pn B7,pk,pb CX]) (.Dv k) .sc;refine Aa (λDR=>?_) λDR=>?_;rintro⟨⟩;exact gA (o5++[pn B7,pk,pb CX,pk,pb DR]) (.Dv k) .sc;refine Aa (λBM=>?_) λBM=>?_;rintro⟨⟩;exact gA (o5++[pn B7,pk,pb CX,pk,pb DR,pb BM]) (.Dv k) .sc;refine Aa (λCL=>?_) λCL=>?_;rintro⟨⟩;exact gA (o5++[pn B7,pk,pb CX,pk,pb DR,pb BM,pb CL]) (.Dv k) .sc;rintro⟨⟩;exact gN [fq (C4.Bk f.ps)] [bp (OW.pl f)] (o5++[pn B7,pk,pb CX,pk,pb DR,pb BM,pb CL,pi BQ]) k;rintro⟨⟩;exact gA (o5++[pn B7]) (.Dv k) .sc;refine Ah λz5 hz5=>?_;let o6:LP:=o3++[pb BA,Dx (pX hz5 (.tmp 57) (.tmp 59))];refine Aa (λCs=>?_) λCs=>?_;refine Aa (λDh=>?_) λDh=>?_;rintro⟨⟩;exact gA (o6++[pn Cs,pk,pb Dh]) (.Dv k) .sc;refine Aa (λDG=>?_) λDG=>?_;rintro⟨⟩;exact gA (o6++[pn Cs,pk,pb Dh,pk,pb DG]) (.Dv k) .sc;refine Aa (λDp=>?_) λDp=>?_;rintro⟨⟩;exact gA (o6++[pn Cs,pk,pb Dh,pk,pb DG,pb Dp]) (.Dv k) .sc;refine Aa (λEj=>?_) λEj=>?_;rintro⟨⟩;exact gA (o6++[pn Cs,pk,pb Dh,pk,pb DG,pb Dp,pb Ej]) (.Dv k) .sc;rintro⟨⟩;exact gN [fq (C4.Bk f.ps)] [bp (OW.pl f)] (o6++[pn Cs,pk,pb Dh,pk,pb DG,pb Dp,pb Ej,pi BQ]) k;rintro⟨⟩;exact gA (o6++[pn Cs]) (.Dv k) .sc;rintro⟨⟩ aol;rintro⟨⟩;exact C7 [] .body .sc;rintro⟨⟩;exact rT (o1++[pb Ax,pb AL,Bq (Yx .lost Pp),pn Bg]);rintro rfl;rintro⟨⟩;exact rT o1
abbrev C5(c:Ck)(n:Nd)(depth:Int)(yR:Bool)(Ai:Int):Prop:=Sound P G (.call 76 [.ptr 0 0,.agg (Dq n),.zi depth] ⟨[(0,.cells (LH c))],1,[],0⟩ (.ret (.zb yR)) ⟨[(0,.cells (LH ⟨Ai⟩))],1,[],0⟩)
def Bm{c:Ck}{n:Nd}{depth:Int}{yR:Bool}{Ai:Int}(hS:(C5 c n depth yR Ai)):=@ckU _ _ _ _ _ hS (Aq (An.Cv n) (Aq rfl rfl)) rfl
abbrev Dd(c:Ck)(n:Nd)(depth:Int)(yR:Bool)(Ai:Int):Prop:=Sound P G (.call 123 [.ptr 0 0,.agg (Dq n),.zi depth] ⟨[(0,.cells (LH c))],1,[],0⟩ (.ret (.zb yR)) ⟨[(0,.cells (LH ⟨Ai⟩))],1,[],0⟩)
def SN{c:Ck}{n:Nd}{depth:Int}{yR:Bool}{Ai:Int}(hS:(Dd c n depth yR Ai)):=@ckU _ _ _ _ _ hS (Aq (An.Cv n) (Aq rfl rfl)) rfl
abbrev CJ(c:Ck)(n:Nd)(depth:Int)(yR:Bool)(Ai:Int):Prop:=Sound P G (.call 163 [.ptr 0 0,.agg (Dq n),.zi depth] ⟨[(0,.cells (LH c))],1,[],0⟩ (.ret (.zb yR)) ⟨[(0,.cells (LH ⟨Ai⟩))],1,[],0⟩)
def Mx{c:Ck}{n:Nd}{depth:Int}{yR:Bool}{Ai:Int}(hS:(CJ c n depth yR Ai)):=@ckU _ _ _ _ _ hS (Aq (An.Cv n) (Aq rfl rfl)) rfl
abbrev CM(c:Ck)(list:(List Nd))(depth:Int)(yR:Bool)(Ai:Int):Prop:=Sound P G (.call 79 [.ptr 0 0,.sl .lost list.length (EG list),.zi depth,.fn (.func 76) [.ptr 0 0] []] ⟨[(0,.cells (LH c))],1,[],0⟩ (.ret (.zb yR)) ⟨[(0,.cells (LH ⟨Ai⟩))],1,[],0⟩)
def Ll{c:Ck}{list:(List Nd)}{depth:Int}{yR:Bool}{Ai:Int}(hS:(CM c list depth yR Ai))(u0:Nat)(RV:([u0]:List Nat).Nodup:=by decide)(TE:([]:List Nat).Nodup:=by decide):Cd.ok P G (.H4 79 [.ptr u0 0,.sl .lost list.length (EG list),.zi depth,.fn (.func 76) [.ptr u0 0] []] (.ret (.zb yR)) [(u0,.cells (LH c))] [] [(u0,.cells (LH ⟨Ai⟩))] []) :=
 Io (M:=[.cells (LH c)]) (M2:=[.cells (LH ⟨Ai⟩)]) (T:=[]) (T2:=[]) (k:=1) (j:=0) Hd.CY _ _ _ _ hS rfl rfl rfl rfl rfl RV TE rfl rfl (.cons (.cells (.pl (tP.pl c))) .nil) (.cons (.cells (.pl (Aq rfl rfl))) .nil) (.cons (.ptr (by decide)) (.cons (.pl (An.Bk list)) (.cons (.pl rfl) (.cons (.fn (.cons (.ptr (by decide)) .nil) (.pl rfl)) .nil)))) (.pl rfl) (λe he=>by simp only[List.mem_singleton] at he;subst he;exact(.arg (.here .ptr)))
def DI(Av:Ck->Nd->Int->Option (Bool×Int))(A2:Ck->Nd->Int->Option (Bool×Int))(A4:Ck->Nd->Int->Option (Bool×Int))(AK:Ck->(List Nd)->Int->Option (Bool×Int))(c:Ck)(n:Nd)(depth:Int):Option (Bool×Int):=(B4 c n depth).bind λ(O5,DN)=>cond O5 (cond (Ba n.kind 11) ((Fa n.unit).bind λy2=>cond y2 (cond (C3 n.n 0) (some (false,DN)) (cond (C3 999999999999 n.n) (some (false,DN)) (cond (By n.unit.data.toList Ak.data.toList) (cond (C3 1 n.n) (some (false,DN)) (cond (Ba ((n.kids.length:Nat):Int) 0) ((BJ n (⟨0,ByteArray.empty,n.unit,n.n,0,0,0,(⟨0,[]⟩:Fn),[],0⟩:Nd)).bind λy3=>some (y3,DN)) (some (false,DN)))) (cond (Ba ((n.kids.length:Nat):Int) 0) ((BJ n (⟨0,ByteArray.empty,n.unit,n.n,0,0,0,(⟨0,[]⟩:Fn),[],0⟩:Nd)).bind λy4=>some (y4,DN)) (some (false,DN)))))) (some (false,DN))) (cond (Ba n.kind 12) ((Di n.name).bind λy5=>cond y5 (cond (Ba ((n.kids.length:Nat):Int) 0) ((BJ n (⟨0,n.name,ByteArray.empty,0,0,0,0,(⟨0,[]⟩:Fn),[],0⟩:Nd)).bind λy6=>some (y6,DN)) (some (false,DN))) (some (false,DN))) (cond (Ba n.kind 13) ((DW n.n).bind λy7=>cond y7 (cond (Ba ((n.kids.length:Nat):Int) 0) ((BJ n (⟨0,ByteArray.empty,ByteArray.empty,n.n,0,0,0,(⟨0,[]⟩:Fn),[],0⟩:Nd)).bind λy8=>some (y8,DN)) (some (false,DN))) (some (false,DN))) (cond (Ba n.kind 14) ((GO n.name).bind λy9=>cond y9 (cond (Ba ((n.kids.length:Nat):Int) 0) ((BJ n (⟨0,n.name,ByteArray.empty,0,0,0,0,(⟨0,[]⟩:Fn),[],0⟩:Nd)).bind λYT=>some (YT,DN)) (some (false,DN))) (some (false,DN))) (cond (Ba n.kind 15) (cond (Ba ((n.kids.length:Nat):Int) 1) ((BJ n (⟨0,ByteArray.empty,ByteArray.empty,0,0,0,0,(⟨0,[]⟩:Fn),[],0⟩:Nd)).bind λnI=>cond nI ((n.kids[0]?).bind λx12=>(Av (⟨DN⟩:Ck) x12 (CE depth 1)).bind λ(agP,abR)=>some (agP,abR)) (some (false,DN))) (some (false,DN))) (cond (Ba n.kind 16) ((BJ n (⟨0,n.name,ByteArray.empty,0,0,0,0,(⟨0,[]⟩:Fn),[],0⟩:Nd)).bind λnZ=>cond nZ ((A2 (⟨DN⟩:Ck) n depth).bind λ(yG,qB)=>some (yG,qB)) (some (false,DN))) (cond (Ba n.kind 17) (cond (By n.name.data.toList Ni.data.toList) ((BJ n (⟨0,n.name,ByteArray.empty,0,0,0,0,(⟨0,[]⟩:Fn),[],0⟩:Nd)).bind λy16=>cond y16 (cond (Iy 2 ((n.kids.length:Nat):Int)) ((AK (⟨DN⟩:Ck) n.kids (CE depth 1)).bind λ(ao6,aru)=>some (ao6,aru)) (some (false,DN))) (some (false,DN))) (cond (By n.name.data.toList FM.data.toList) ((BJ n (⟨0,n.name,ByteArray.empty,0,0,0,0,(⟨0,[]⟩:Fn),[],0⟩:Nd)).bind λgX=>cond gX (cond (Iy 2 ((n.kids.length:Nat):Int)) ((AK (⟨DN⟩:Ck) n.kids (CE depth 1)).bind λ(ajb,aa9)=>some (ajb,aa9)) (some (false,DN))) (some (false,DN))) (some (false,DN)))) (cond (Ba n.kind 18) ((BJ n (⟨0,ByteArray.empty,ByteArray.empty,0,0,0,0,n.BX,[],0⟩:Nd)).bind λzZ=>cond zZ ((Hv n.BX).bind λy21=>cond y21 (cond (Ba ((n.kids.length:Nat):Int) 1) ((n.kids[0]?).bind λx22=>(Av (⟨DN⟩:Ck) x22 (CE depth 1)).bind λ(arH,arl)=>some (arH,arl)) (some (false,DN))) (some (false,DN))) (some (false,DN))) (some (false,DN)))))))))) (some (false,DN))
def R7(Av:Ck->Nd->Int->Option (Bool×Int))(A2:Ck->Nd->Int->Option (Bool×Int))(A4:Ck->Nd->Int->Option (Bool×Int))(AK:Ck->(List Nd)->Int->Option (Bool×Int))(Bc:∀{c:Ck} {n:Nd} {depth:Int} {yR:Bool} {Ai:Int},Av c n depth=some (yR,Ai)->(C5 c n depth yR Ai))(FV:∀{c:Ck} {n:Nd} {depth:Int} {yR:Bool} {Ai:Int},A2 c n depth=some (yR,Ai)->(Dd c n depth yR Ai))(Ga:∀{c:Ck} {n:Nd} {depth:Int} {yR:Bool} {Ai:Int},A4 c n depth=some (yR,Ai)->(CJ c n depth yR Ai))(DY:∀{c:Ck} {list:(List Nd)} {depth:Int} {yR:Bool} {Ai:Int},AK c list depth=some (yR,Ai)->(CM c list depth yR Ai)){c:Ck}{n:Nd}{depth:Int}{yR:Bool}{Ai:Int}:DI Av A2 A4 AK c n depth=some (yR,Ai)->(C5 c n depth yR Ai):=by
 refine sM Tryz.func76 ?_;unfold DI;refine Cb λO5 DN CK=>?_;let o1:LP:=[AG (FF (Er CK) 0)];refine Aa ?_ ?_;rintro rfl;refine Aa (λAx=>?_) λAx=>?_;refine Ah λy2 E7=>?_;let o2:LP:=o1++[pb Ax,Ag (Gi E7)];refine Aa ?_ ?_;rintro rfl;refine Aa (λAL=>?_) λAL=>?_;rintro⟨⟩;exact gR [] [none] (o2++[pb AL]);refine Aa (λBg=>?_) λBg=>?_;rintro⟨⟩;exact gR [] [none] (o2++[pb AL,pb Bg]);refine Aa (λBu=>?_) λBu=>?_;refine Aa (λBA=>?_) λBA=>?_;rintro⟨⟩;exact gR [] [none] (o2++[pb AL,pb Bg,pb Bu,pb BA]);refine Aa (λBC=>?_) λBC=>?_;refine Ah λy3 Jb=>?_;rintro⟨⟩;exact gR [] [none] (o2++[pb AL,pb Bg,pb Bu,pb BA,pb BC,Gc (.r (.g (.r (.r (.r (.r (.r (.r (.r (.r (.z (.z (.r .nil))))))))))) .nil)) (BS Jb)]);rintro⟨⟩;exact gR [] [none] (o2++[pb AL,pb Bg,pb Bu,pb BA,pb BC]);refine Aa (λB7=>?_) λB7=>?_;refine Ah λy4 OD=>?_;rintro⟨⟩;exact gR [] [none] (o2++[pb AL,pb Bg,pb Bu,pb B7,Gc (.r (.g (.r (.r (.r (.r (.r (.r (.r (.r (.z (.z (.r .nil))))))))))) .nil)) (BS OD)]);rintro⟨⟩;exact gR [] [none] (o2++[pb AL,pb Bg,pb Bu,pb B7]);rintro rfl;rintro⟨⟩;exact gR [] [none] o2;let o3:LP:=o1++[pb Ax];refine Aa (λCX=>?_) λCX=>?_;refine Ah λy5 Lb=>?_;let o4:LP:=o3++[pb CX,Ag (H8 Lb)];refine Aa ?_ ?_;rintro rfl;refine Aa (λDR=>?_) λDR=>?_;refine Ah λy6 Rq=>?_;rintro⟨⟩;exact gR [] [none] (o4++[pb DR,Gc (.r (.g (.r (.r (.r (.r (.r (.r (.r (.r (.z (.z (.r .nil))))))))))) .nil)) (BS Rq)]);rintro⟨⟩;exact gR [] [none] (o4++[pb DR]);rintro rfl;rintro⟨⟩;exact gR [] [none] o4;let o5:LP:=o3++[pb CX];refine Aa (λBM=>?_) λBM=>?_;refine Ah λy7 Ub=>?_;let o6:LP:=o5++[pb BM,Ag (HH Ub)];refine Aa ?_ ?_;rintro rfl;refine Aa (λCL=>?_) λCL=>?_;refine Ah λy8 Xf=>?_;rintro⟨⟩;exact gR [] [none] (o6++[pb CL,Gc (.r (.g (.r (.r (.r (.r (.r (.r (.r (.r (.z (.z (.r .nil))))))))))) .nil)) (BS Xf)]);rintro⟨⟩;exact gR [] [none] (o6++[pb CL]);rintro rfl;rintro⟨⟩;exact gR [] [none] o6;let o7:LP:=o5++[pb BM];refine Aa (λCs=>?_) λCs=>?_;refine Ah λy9 cF=>?_;let o8:LP:=o7++[pb Cs,Ag (Tm cF)];refine Aa ?_ ?_;rintro rfl;refine Aa (λDh=>?_) λDh=>?_;refine Ah λYT Pw=>?_;rintro⟨⟩;exact gR [] [none] (o8++[pb Dh,Gc (.r (.g (.r (.r (.r (.r (.r (.r (.r (.r (.z (.z (.r .nil))))))))))) .nil)) (BS Pw)]);rintro⟨⟩;exact gR [] [none] (o8++[pb Dh]);rintro rfl;rintro⟨⟩;exact gR [] [none] o8;let o9:LP:=o7++[pb Cs];refine Aa (λDG=>?_) λDG=>?_;refine Aa (λDp=>?_) λDp=>?_;refine Ah λnI X5=>?_;let So:LP:=o9++[pb DG,pb Dp,Gc (.r (.g (.r (.r (.r (.r (.r (.r (.r (.r (.z (.z (.r .nil))))))))))) .nil)) (BS X5)];refine Aa ?_ ?_;rintro rfl;refine Ah λx12 abQ=>?_;refine Cb λagP abR Ux=>?_;rintro⟨⟩;exact gR [] [none] (So++[Bq (B0 .lost abQ),pk,AG (Bm (Bc Ux) 0)]);rintro rfl;rintro⟨⟩;exact gR [] [none] So;rintro⟨⟩;exact gR [] [none] (o9++[pb DG,pb Dp]);let Sn:LP:=o9++[pb DG];refine Aa (λEj=>?_) λEj=>?_;refine Ah λnZ Tl=>?_;let Tg:LP:=Sn++[pb Ej,Gc (.r (.g (.r (.r (.r (.r (.r (.r (.r (.r (.z (.z (.r .nil))))))))))) .nil)) (BS Tl)];refine Aa ?_ ?_;rintro rfl;refine Cb λyG qB VG=>?_;rintro⟨⟩;exact gR [] [none] (Tg++[AG (SN (FV VG) 0)]);rintro rfl;rintro⟨⟩;exact gR [] [none] Tg;let TT:LP:=Sn++[pb Ej];refine Aa (λF0=>?_) λF0=>?_;refine Aa (λGL=>?_) λGL=>?_;refine Ah λy16 Zd=>?_;let cH:LP:=TT++[pb F0,pb GL,Gc (.r (.g (.r (.r (.r (.r (.r (.r (.r (.r (.z (.z (.r .nil))))))))))) .nil)) (BS Zd)];refine Aa ?_ ?_;rintro rfl;refine Aa (λKF=>?_) λKF=>?_;refine Cb λao6 aru zA=>?_;rintro⟨⟩;exact gR [] [none] (cH++[pb KF,pk,AG (Ll (DY zA) 0)]);rintro⟨⟩;exact gR [] [none] (cH++[pb KF]);rintro rfl;rintro⟨⟩;exact gR [] [none] cH;refine Aa (λKz=>?_) λKz=>?_;refine Ah λgX Tn=>?_;let aA:LP:=TT++[pb F0,pb GL,pb Kz,Gc (.r (.g (.r (.r (.r (.r (.r (.r (.r (.r (.z (.z (.r .nil))))))))))) .nil)) (BS Tn)];refine Aa ?_ ?_;rintro rfl;refine Aa (λN4=>?_) λN4=>?_;refine Cb λajb aa9 eQ=>?_;rintro⟨⟩;exact gR [] [none] (aA++[pb N4,pk,AG (Ll (DY eQ) 0)]);rintro⟨⟩;exact gR [] [none] (aA++[pb N4]);rintro rfl;rintro⟨⟩;exact gR [] [none] aA;rintro⟨⟩;exact gR [] [none] (TT++[pb F0,pb GL,pb Kz]);refine Aa (λLu=>?_) λLu=>?_;refine Ah λzZ UC=>?_;let WT:LP:=TT++[pb F0,pb Lu,Gc (.r (.g (.r (.r (.r (.r (.r (.r (.r (.r (.r (.z (.r .nil))))))))))) .nil)) (BS UC)];refine Aa ?_ ?_;rintro rfl;refine Ah λy21 XZ=>?_;refine Aa ?_ ?_;rintro rfl;refine Aa (λMZ=>?_) λMZ=>?_;refine Ah λx22 zE=>?_;refine Cb λarH arl gU=>?_;rintro⟨⟩;exact gR [] [none] (WT++[Ag (JW XZ),pb MZ,Bq (B0 .lost zE),pk,AG (Bm (Bc gU) 0)]);rintro⟨⟩;exact gR [] [none] (WT++[Ag (JW XZ),pb MZ]);rintro rfl;rintro⟨⟩;exact gR [] [none] (WT++[Ag (JW XZ)]);rintro rfl;rintro⟨⟩;exact gR [] [none] WT;rintro⟨⟩;exact gR [] [none] (TT++[pb F0,pb Lu]);rintro rfl;rintro⟨⟩;exact gR [] [none] o1
def Da(Av:Ck->Nd->Int->Option (Bool×Int))(A2:Ck->Nd->Int->Option (Bool×Int))(A4:Ck->Nd->Int->Option (Bool×Int))(AK:Ck->(List Nd)->Int->Option (Bool×Int))(c:Ck)(n:Nd)(depth:Int):Option (Bool×Int):=cond (Ba ((n.kids.length:Nat):Int) 2) ((n.kids[0]?).bind λx1=>(Av c x1 (CE depth 1)).bind λ(Pj,KC)=>cond Pj (cond (By n.name.data.toList OO.data.toList) ((n.kids[1]?).bind λx3=>(A4 (⟨KC⟩:Ck) x3 (CE depth 1)).bind λ(yS,kK)=>some (yS,kK)) (cond (By n.name.data.toList bR.data.toList) ((n.kids[1]?).bind λx5=>(Av (⟨KC⟩:Ck) x5 (CE depth 1)).bind λ(mJ,Ug)=>some (mJ,Ug)) (cond (By n.name.data.toList Mp.data.toList) ((n.kids[1]?).bind λx7=>(Av (⟨KC⟩:Ck) x7 (CE depth 1)).bind λ(Xg,UP)=>some (Xg,UP)) (cond (By n.name.data.toList JV.data.toList) ((n.kids[1]?).bind λx9=>(Av (⟨KC⟩:Ck) x9 (CE depth 1)).bind λ(UI,eM)=>some (UI,eM)) (cond (By n.name.data.toList Lv.data.toList) ((n.kids[1]?).bind λx11=>(Av (⟨KC⟩:Ck) x11 (CE depth 1)).bind λ(aie,acM)=>some (aie,acM)) (cond (By n.name.data.toList Um.data.toList) ((n.kids[1]?).bind λx13=>(Av (⟨KC⟩:Ck) x13 (CE depth 1)).bind λ(yJ,jN)=>some (yJ,jN)) (cond (By n.name.data.toList J2.data.toList) ((n.kids[1]?).bind λx15=>(Av (⟨KC⟩:Ck) x15 (CE depth 1)).bind λ(ai6,ab2)=>some (ai6,ab2)) (cond (By n.name.data.toList QV.data.toList) ((n.kids[1]?).bind λx17=>(Av (⟨KC⟩:Ck) x17 (CE depth 1)).bind λ(ai4,acG)=>some (ai4,acG)) (cond (By n.name.data.toList T7.data.toList) ((n.kids[1]?).bind λx19=>(Av (⟨KC⟩:Ck) x19 (CE depth 1)).bind λ(nC,ZE)=>some (nC,ZE)) (cond (By n.name.data.toList S8.data.toList) ((n.kids[1]?).bind λx21=>(Av (⟨KC⟩:Ck) x21 (CE depth 1)).bind λ(ahr,aci)=>some (ahr,aci)) (cond (By n.name.data.toList aW.data.toList) ((n.kids[1]?).bind λx23=>(Av (⟨KC⟩:Ck) x23 (CE depth 1)).bind λ(apr,apa)=>some (apr,apa)) (some (false,KC))))))))))))) (some (false,KC))) (some (false,c.nodes))
def QG(Av:Ck->Nd->Int->Option (Bool×Int))(A2:Ck->Nd->Int->Option (Bool×Int))(A4:Ck->Nd->Int->Option (Bool×Int))(AK:Ck->(List Nd)->Int->Option (Bool×Int))(Bc:∀{c:Ck} {n:Nd} {depth:Int} {yR:Bool} {Ai:Int},Av c n depth=some (yR,Ai)->(C5 c n depth yR Ai))(FV:∀{c:Ck} {n:Nd} {depth:Int} {yR:Bool} {Ai:Int},A2 c n depth=some (yR,Ai)->(Dd c n depth yR Ai))(Ga:∀{c:Ck} {n:Nd} {depth:Int} {yR:Bool} {Ai:Int},A4 c n depth=some (yR,Ai)->(CJ c n depth yR Ai))(DY:∀{c:Ck} {list:(List Nd)} {depth:Int} {yR:Bool} {Ai:Int},AK c list depth=some (yR,Ai)->(CM c list depth yR Ai)){c:Ck}{n:Nd}{depth:Int}{yR:Bool}{Ai:Int}:Da Av A2 A4 AK c n depth=some (yR,Ai)->(Dd c n depth yR Ai):=by
 refine sM Tryz.func123 ?_;unfold Da;refine Aa (λAx=>?_) λAx=>?_;refine Ah λx1 Kn=>?_;refine Cb λPj KC E7=>?_;let o1:LP:=[pn Ax,Bq (B0 .lost Kn),pk,AG (Bm (Bc E7) 0)];refine Aa ?_ ?_;rintro rfl;refine Aa (λAL=>?_) λAL=>?_;refine Ah λx3 lJ=>?_;refine Cb λyS kK OD=>?_;rintro⟨⟩;exact gR [] [none] (o1++[pb AL,Bq (B0 .lost lJ),pk,AG (Mx (Ga OD) 0)]);let o2:LP:=o1++[pb AL];refine Aa (λBg=>?_) λBg=>?_;refine Ah λx5 hx5=>?_;refine Cb λmJ Ug Rq=>?_;rintro⟨⟩;exact gR [] [none] (o2++[pb Bg,Bq (B0 .lost hx5),pk,AG (Bm (Bc Rq) 0)]);refine Aa (λBu=>?_) λBu=>?_;refine Ah λx7 hx7=>?_;refine Cb λXg UP Xf=>?_;rintro⟨⟩;exact gR [] [none] (o2++[pb Bg,pb Bu,Bq (B0 .lost hx7),pk,AG (Bm (Bc Xf) 0)]);let o3:LP:=o2++[pb Bg,pb Bu];refine Aa (λBA=>?_) λBA=>?_;refine Ah λx9 hx9=>?_;refine Cb λUI eM Pw=>?_;rintro⟨⟩;exact gR [] [none] (o3++[pb BA,Bq (B0 .lost hx9),pk,AG (Bm (Bc Pw) 0)]);refine Aa (λBC=>?_) λBC=>?_;refine Ah λx11 agT=>?_;refine Cb λaie acM T4=>?_;rintro⟨⟩;exact gR [] [none] (o3++[pb BA,pb BC,Bq (B0 .lost agT),pk,AG (Bm (Bc T4) 0)]);let o4:LP:=o3++[pb BA,pb BC];refine Aa (λB7=>?_) λB7=>?_;refine Ah λx13 akW=>?_;refine Cb λyJ jN Tl=>?_;rintro⟨⟩;exact gR [] [none] (o4++[pb B7,Bq (B0 .lost akW),pk,AG (Bm (Bc Tl) 0)]);refine Aa (λCX=>?_) λCX=>?_;refine Ah λx15 asm=>?_;refine Cb λai6 ab2 Zd=>?_;rintro⟨⟩;exact gR [] [none] (o4++[pb B7,pb CX,Bq (B0 .lost asm),pk,AG (Bm (Bc Zd) 0)]);refine Aa (λDR=>?_) λDR=>?_;refine Ah λx17 jY=>?_;refine Cb λai4 acG Tn=>?_;rintro⟨⟩;exact gR [] [none] (o4++[pb B7,pb CX,pb DR,Bq (B0 .lost jY),pk,AG (Bm (Bc Tn) 0)]);refine Aa (λBM=>?_) λBM=>?_;refine Ah λx19 aof=>?_;refine Cb λnC ZE UC=>?_;rintro⟨⟩;exact gR [] [none] (o4++[pb B7,pb CX,pb DR,pb BM,Bq (B0 .lost aof),pk,AG (Bm (Bc UC) 0)]);refine Aa (λCL=>?_) λCL=>?_;refine Ah λx21 arX=>?_;refine Cb λahr aci vL=>?_;rintro⟨⟩;exact gR [] [none] (o4++[pb B7,pb CX,pb DR,pb BM,pb CL,Bq (B0 .lost arX),pk,AG (Bm (Bc vL) 0)]);refine Aa (λCs=>?_) λCs=>?_;refine Ah λx23 yO=>?_;refine Cb λapr apa v7=>?_;rintro⟨⟩;exact gR [] [none] (o4++[pb B7,pb CX,pb DR,pb BM,pb CL,pb Cs,Bq (B0 .lost yO),pk,AG (Bm (Bc v7) 0)]);rintro⟨⟩;exact gR [] [none] (o4++[pb B7,pb CX,pb DR,pb BM,pb CL,pb Cs]);rintro rfl;rintro⟨⟩;exact gR [] [none] o1;rintro⟨⟩;exact gR [] [bp (tP.pl c)] [pn Ax]
def Db(Av:Ck->Nd->Int->Option (Bool×Int))(A2:Ck->Nd->Int->Option (Bool×Int))(A4:Ck->Nd->Int->Option (Bool×Int))(AK:Ck->(List Nd)->Int->Option (Bool×Int))(c:Ck)(n:Nd)(depth:Int):Option (Bool×Int):=(Av c n depth).bind λ(O5,DN)=>cond O5 (cond (Ba n.kind 11) (cond (By n.unit.data.toList AF.data.toList) ((DW n.n).bind λy2=>some (y2,DN)) (some (false,DN))) (some (false,DN))) (some (false,DN))
def Qg(Av:Ck->Nd->Int->Option (Bool×Int))(A2:Ck->Nd->Int->Option (Bool×Int))(A4:Ck->Nd->Int->Option (Bool×Int))(AK:Ck->(List Nd)->Int->Option (Bool×Int))(Bc:∀{c:Ck} {n:Nd} {depth:Int} {yR:Bool} {Ai:Int},Av c n depth=some (yR,Ai)->(C5 c n depth yR Ai))(FV:∀{c:Ck} {n:Nd} {depth:Int} {yR:Bool} {Ai:Int},A2 c n depth=some (yR,Ai)->(Dd c n depth yR Ai))(Ga:∀{c:Ck} {n:Nd} {depth:Int} {yR:Bool} {Ai:Int},A4 c n depth=some (yR,Ai)->(CJ c n depth yR Ai))(DY:∀{c:Ck} {list:(List Nd)} {depth:Int} {yR:Bool} {Ai:Int},AK c list depth=some (yR,Ai)->(CM c list depth yR Ai)){c:Ck}{n:Nd}{depth:Int}{yR:Bool}{Ai:Int}:Db Av A2 A4 AK c n depth=some (yR,Ai)->(CJ c n depth yR Ai):=by
 refine sM Tryz.func163 ?_;unfold Db;refine Cb λO5 DN CK=>?_;let o1:LP:=[AG (Bm (Bc CK) 0)];refine Aa ?_ ?_;rintro rfl;refine Aa (λAx=>?_) λAx=>?_;refine Aa (λAL=>?_) λAL=>?_;refine Ah λy2 E7=>?_;rintro⟨⟩;exact gR [] [none] (o1++[pb Ax,pb AL,Ag (HH E7)]);rintro⟨⟩;exact gR [] [none] (o1++[pb Ax,pb AL]);rintro⟨⟩;exact gR [] [none] (o1++[pb Ax]);rintro rfl;rintro⟨⟩;exact gR [] [none] o1
def DS(Av:Ck->Nd->Int->Option (Bool×Int))(A2:Ck->Nd->Int->Option (Bool×Int))(A4:Ck->Nd->Int->Option (Bool×Int))(AK:Ck->(List Nd)->Int->Option (Bool×Int))(depth:Int)(i0:Nat)(e0:Nd)(G1:Int):Option (Lp Int Int (Bool×Int)):=(Av (⟨G1⟩:Ck) e0 depth).bind λ(O5,DN)=>cond O5 (some (.nx DN)) (some (.rt (false,DN)))
def Du(Av:Ck->Nd->Int->Option (Bool×Int))(A2:Ck->Nd->Int->Option (Bool×Int))(A4:Ck->Nd->Int->Option (Bool×Int))(AK:Ck->(List Nd)->Int->Option (Bool×Int))(c:Ck)(list:(List Nd))(depth:Int):Option (Bool×Int):=(ED list.length (Au (λi y x=>DS Av A2 A4 AK depth i y x) (λx=>x) (list.drop 0) 0 c.nodes)).bind (Eu (λ(Qy:Int)=>some (true,Qy)) (λv=>some v))
def Pl(Av:Ck->Nd->Int->Option (Bool×Int))(A2:Ck->Nd->Int->Option (Bool×Int))(A4:Ck->Nd->Int->Option (Bool×Int))(AK:Ck->(List Nd)->Int->Option (Bool×Int))(Bc:∀{c:Ck} {n:Nd} {depth:Int} {yR:Bool} {Ai:Int},Av c n depth=some (yR,Ai)->(C5 c n depth yR Ai))(FV:∀{c:Ck} {n:Nd} {depth:Int} {yR:Bool} {Ai:Int},A2 c n depth=some (yR,Ai)->(Dd c n depth yR Ai))(Ga:∀{c:Ck} {n:Nd} {depth:Int} {yR:Bool} {Ai:Int},A4 c n depth=some (yR,Ai)->(CJ c n depth yR Ai))(DY:∀{c:Ck} {list:(List Nd)} {depth:Int} {yR:Bool} {Ai:Int},AK c list depth=some (yR,Ai)->(CM c list depth yR Ai)){c:Ck}{list:(List Nd)}{depth:Int}{yR:Bool}{Ai:Int}:Du Av A2 A4 AK c list depth=some (yR,Ai)->(CM c list depth yR Ai):=by
 refine sM Tryz.func79 ?_;unfold Du;refine CF (λQ v=>Jm P G Tryz.f79 1 ⟨[(0,.cells (LH c))],1,[],0⟩ Q (.zb v.1) ⟨[(0,.cells [.zi v.2])],1,[],0⟩) 23 [8,14,20,21] (λi0 (G1:Int)=>[(2,.zi depth),(3,.fn (.func 76) [.ptr 0 0] []),(11,.sl .lost list.length (EG list)),(12,.zi ((list.length:Nat):Int)),(13,.zi ((i0:Nat):Int))]) (λG1=>⟨[(0,.cells [.zi G1])],1,[],0⟩) [2,3,11,12,13] [] 0 (sb (Al Tryz.f79) 52) [.code (sb (Al Tryz.f79) 7)] [] ?_ ?_;rintro i0 e0 G1 j0 r B6 Ca BQ k;show DS Av A2 A4 AK depth i0 e0 G1=some r->_;unfold DS;refine Cb λO5 DN CK=>?_;let o1:LP:=[pb (C2 Ca),Bq (B0 .lost B6),AG (Bm (Bc CK) 0)];refine Aa ?_ ?_;rintro rfl;rintro⟨⟩;exact gN [fq (An.Bk list)] [none] (o1++[pi BQ]) k;rintro rfl;rintro⟨⟩;exact gK [] [none] o1 (.Dv k);rintro Qy OV;rintro⟨⟩;exact Om [] [none] []
mutual
def AN:Nat->Ck->Nd->Int->Option (Bool×Int)
 | 0,_,_,_=>none
 | qn+1,c,n,depth=>DI (AN qn) (A7 qn) (AY qn) (AQ qn) c n depth
def A7:Nat->Ck->Nd->Int->Option (Bool×Int)
 | 0,_,_,_=>none
 | qn+1,c,n,depth=>Da (AN qn) (A7 qn) (AY qn) (AQ qn) c n depth
def AY:Nat->Ck->Nd->Int->Option (Bool×Int)
 | 0,_,_,_=>none
 | qn+1,c,n,depth=>Db (AN qn) (A7 qn) (AY qn) (AQ qn) c n depth
def AQ:Nat->Ck->(List Nd)->Int->Option (Bool×Int)
 | 0,_,_,_=>none
 | qn+1,c,list,depth=>Du (AN qn) (A7 qn) (AY qn) (AQ qn) c list depth
end
def MD:∀qn:Nat,(∀{c:Ck} {n:Nd} {depth:Int} {yR:Bool} {Ai:Int},AN qn c n depth=some (yR,Ai)->(C5 c n depth yR Ai))/\(∀{c:Ck} {n:Nd} {depth:Int} {yR:Bool} {Ai:Int},A7 qn c n depth=some (yR,Ai)->(Dd c n depth yR Ai))/\(∀{c:Ck} {n:Nd} {depth:Int} {yR:Bool} {Ai:Int},AY qn c n depth=some (yR,Ai)->(CJ c n depth yR Ai))/\(∀{c:Ck} {list:(List Nd)} {depth:Int} {yR:Bool} {Ai:Int},AQ qn c list depth=some (yR,Ai)->(CM c list depth yR Ai)):=by
 intro qn
 induction qn with
 | zero=>exact⟨(λh=>by simp only[AN] at h;cases h),(λh=>by simp only[A7] at h;cases h),(λh=>by simp only[AY] at h;cases h),(λh=>by simp only[AQ] at h;cases h)⟩
 | succ qn ih=>exact⟨(λh=>R7 (AN qn) (A7 qn) (AY qn) (AQ qn) ih.1 ih.2.1 ih.2.2.1 ih.2.2.2 (by rw[AN] at h;exact h)),(λh=>QG (AN qn) (A7 qn) (AY qn) (AQ qn) ih.1 ih.2.1 ih.2.2.1 ih.2.2.2 (by rw[A7] at h;exact h)),(λh=>Qg (AN qn) (A7 qn) (AY qn) (AQ qn) ih.1 ih.2.1 ih.2.2.1 ih.2.2.2 (by rw[AY] at h;exact h)),(λh=>Pl (AN qn) (A7 qn) (AY qn) (AQ qn) ih.1 ih.2.1 ih.2.2.1 ih.2.2.2 (by rw[AQ] at h;exact h))⟩
def FA(c:Ck)(n:Nd)(depth:Int):Option (Bool×Int):=cA (λqn=>AN qn c n depth)
def NY{c:Ck}{n:Nd}{depth:Int}{yR:Bool}{Ai:Int}(h:FA c n depth=some (yR,Ai)):(C5 c n depth yR Ai):=by
 obtain⟨qn,h⟩:=Th h;exact(MD qn).1 h
def GD(c:Ck)(n:Nd)(depth:Int):Option (Bool×Int):=cA (λqn=>AY qn c n depth)
def RS{c:Ck}{n:Nd}{depth:Int}{yR:Bool}{Ai:Int}(h:GD c n depth=some (yR,Ai)):(CJ c n depth yR Ai):=by
 obtain⟨qn,h⟩:=Th h;exact(MD qn).2.2.1 h
def Hj(day:Int):Option Bool:=cond (Iy 0 day) (cond (Iy day 36524) (some true) (some false)) (some false)
def Lz{day:Int}{yR:Bool}:Hj  day=some yR->Pure P G 164 [.zi day] (.zb yR):=by
 refine pM Tryz.func164 (Aq rfl rfl) rfl ?_;unfold Hj;refine Aa (λAx=>?_) λAx=>?_;refine Aa (λAL=>?_) λAL=>?_;rintro⟨⟩;exact rT [pb Ax,pb AL];rintro⟨⟩;exact rT [pb Ax,pb AL];rintro⟨⟩;exact rT [pb Ax]
def FC(c:Ck)(n:Nd)(depth:Int):Option (Bool×Int):=(B4 c n depth).bind λ(O5,DN)=>cond O5 (cond (Ba n.kind 5) (cond (C3 n.n 0) (some (false,DN)) (cond (C3 1000000 n.n) (some (false,DN)) (cond (C3 0 ((n.kids.length:Nat):Int)) (some (false,DN)) ((Hj n.fr).bind λy2=>cond y2 (cond (Iy n.to n.fr) (some (false,DN)) (cond (C3 36525 n.to) (some (false,DN)) ((Hj n.known).bind λy3=>cond y3 ((BJ n (⟨0,ByteArray.empty,ByteArray.empty,n.n,n.fr,n.to,n.known,(⟨0,[]⟩:Fn),[],0⟩:Nd)).bind λy4=>some (y4,DN)) (some (false,DN))))) (some (false,DN)))))) (some (false,DN))) (some (false,DN))
def T6{c:Ck}{n:Nd}{depth:Int}{yR:Bool}{Ai:Int}(hS:Sound P G (.call 125 [.ptr 0 0,.agg (Dq n),.zi depth] ⟨[(0,.cells (LH c))],1,[],0⟩ (.ret (.zb yR)) ⟨[(0,.cells (LH ⟨Ai⟩))],1,[],0⟩)):=@ckU _ _ _ _ _ hS (Aq (An.Cv n) (Aq rfl rfl)) rfl
def RT{c:Ck}{n:Nd}{depth:Int}{yR:Bool}{Ai:Int}:FC  c n depth=some (yR,Ai)->Sound P G (.call 125 [.ptr 0 0,.agg (Dq n),.zi depth] ⟨[(0,.cells (LH c))],1,[],0⟩ (.ret (.zb yR)) ⟨[(0,.cells (LH ⟨Ai⟩))],1,[],0⟩):=by
 refine sM Tryz.func125 ?_;unfold FC;refine Cb λO5 DN CK=>?_;let o1:LP:=[AG (FF (Er CK) 0)];refine Aa ?_ ?_;rintro rfl;refine Aa (λAx=>?_) λAx=>?_;refine Aa (λAL=>?_) λAL=>?_;rintro⟨⟩;exact gR [] [none] (o1++[pn Ax,pb AL]);let o2:LP:=o1++[pn Ax,pb AL];refine Aa (λBg=>?_) λBg=>?_;rintro⟨⟩;exact gR [] [none] (o2++[pb Bg]);refine Aa (λBu=>?_) λBu=>?_;rintro⟨⟩;exact gR [] [none] (o2++[pb Bg,pb Bu]);refine Ah λy2 E7=>?_;let o3:LP:=o2++[pb Bg,pb Bu,Ag (Lz E7)];refine Aa ?_ ?_;rintro rfl;refine Aa (λBA=>?_) λBA=>?_;rintro⟨⟩;exact gR [] [none] (o3++[pb BA]);refine Aa (λBC=>?_) λBC=>?_;rintro⟨⟩;exact gR [] [none] (o3++[pb BA,pb BC]);refine Ah λy3 Jb=>?_;refine Aa ?_ ?_;rintro rfl;refine Ah λy4 OD=>?_;rintro⟨⟩;exact gR [] [none] (o3++[pb BA,pb BC,Ag (Lz Jb),Gc (.r (.g (.r (.r (.r (.r (.r (.r (.r (.r (.z (.z (.r .nil))))))))))) .nil)) (BS OD)]);rintro rfl;rintro⟨⟩;exact gR [] [none] (o3++[pb BA,pb BC,Ag (Lz Jb)]);rintro rfl;rintro⟨⟩;exact gR [] [none] o3;rintro⟨⟩;exact gR [] [none] (o1++[pn Ax]);rintro rfl;rintro⟨⟩;exact gR [] [none] o1
def GI(depth:Int)(i0:Nat)(e0:Nd)(G1:Int):Option (Lp Int Int (Bool×Int)):=(GD (⟨G1⟩:Ck) e0 depth).bind λ(O5,DN)=>cond O5 (some (.nx DN)) (some (.rt (false,DN)))
def ER(c:Ck)(list:(List Nd))(depth:Int):Option (Bool×Int):=(ED list.length (Au (λi y x=>GI  depth i y x) (λx=>x) (list.drop 0) 0 c.nodes)).bind (Eu (λ(Qy:Int)=>some (true,Qy)) (λv=>some v))
def PU{c:Ck}{list:(List Nd)}{depth:Int}{yR:Bool}{Ai:Int}(hS:Sound P G (.call 79 [.ptr 0 0,.sl .lost list.length (EG list),.zi depth,.fn (.func 163) [.ptr 0 0] []] ⟨[(0,.cells (LH c))],1,[],0⟩ (.ret (.zb yR)) ⟨[(0,.cells (LH ⟨Ai⟩))],1,[],0⟩))(u0:Nat)(RV:([u0]:List Nat).Nodup:=by decide)(TE:([]:List Nat).Nodup:=by decide):Cd.ok P G (.H4 79 [.ptr u0 0,.sl .lost list.length (EG list),.zi depth,.fn (.func 163) [.ptr u0 0] []] (.ret (.zb yR)) [(u0,.cells (LH c))] [] [(u0,.cells (LH ⟨Ai⟩))] []) :=
 Io (M:=[.cells (LH c)]) (M2:=[.cells (LH ⟨Ai⟩)]) (T:=[]) (T2:=[]) (k:=1) (j:=0) Hd.CY _ _ _ _ hS rfl rfl rfl rfl rfl RV TE rfl rfl (.cons (.cells (.pl (tP.pl c))) .nil) (.cons (.cells (.pl (Aq rfl rfl))) .nil) (.cons (.ptr (by decide)) (.cons (.pl (An.Bk list)) (.cons (.pl rfl) (.cons (.fn (.cons (.ptr (by decide)) .nil) (.pl rfl)) .nil)))) (.pl rfl) (λe he=>by simp only[List.mem_singleton] at he;subst he;exact(.arg (.here .ptr)))
def Oo{c:Ck}{list:(List Nd)}{depth:Int}{yR:Bool}{Ai:Int}:ER  c list depth=some (yR,Ai)->Sound P G (.call 79 [.ptr 0 0,.sl .lost list.length (EG list),.zi depth,.fn (.func 163) [.ptr 0 0] []] ⟨[(0,.cells (LH c))],1,[],0⟩ (.ret (.zb yR)) ⟨[(0,.cells (LH ⟨Ai⟩))],1,[],0⟩):=by
 refine sM Tryz.func79 ?_;unfold ER;refine CF (λQ v=>Jm P G Tryz.f79 1 ⟨[(0,.cells (LH c))],1,[],0⟩ Q (.zb v.1) ⟨[(0,.cells [.zi v.2])],1,[],0⟩) 23 [8,14,20,21] (λi0 (G1:Int)=>[(2,.zi depth),(3,.fn (.func 163) [.ptr 0 0] []),(11,.sl .lost list.length (EG list)),(12,.zi ((list.length:Nat):Int)),(13,.zi ((i0:Nat):Int))]) (λG1=>⟨[(0,.cells [.zi G1])],1,[],0⟩) [2,3,11,12,13] [] 0 (sb (Al Tryz.f79) 52) [.code (sb (Al Tryz.f79) 7)] [] ?_ ?_;rintro i0 e0 G1 j0 r B6 Ca BQ k;show GI  depth i0 e0 G1=some r->_;unfold GI;refine Cb λO5 DN CK=>?_;let o1:LP:=[pb (C2 Ca),Bq (B0 .lost B6),AG (Mx (RS CK) 0)];refine Aa ?_ ?_;rintro rfl;rintro⟨⟩;exact gN [fq (An.Bk list)] [none] (o1++[pi BQ]) k;rintro rfl;rintro⟨⟩;exact gK [] [none] o1 (.Dv k);rintro Qy OV;rintro⟨⟩;exact Om [] [none] []
def DO(c:Ck)(n:Nd)(depth:Int):Option (Bool×Int):=(B4 c n depth).bind λ(O5,DN)=>cond O5 ((BJ n (⟨0,ByteArray.empty,ByteArray.empty,0,0,0,0,(⟨0,[]⟩:Fn),[],0⟩:Nd)).bind λy2=>cond y2 (cond (Ba n.kind 7) (cond (C3 0 ((n.kids.length:Nat):Int)) ((ER (⟨DN⟩:Ck) n.kids (CE depth 1)).bind λ(OU,Mn)=>some (OU,Mn)) (some (false,DN))) (cond (Ba ((n.kids.length:Nat):Int) 1) ((n.kids[0]?).bind λx4=>(FA (⟨DN⟩:Ck) x4 (CE depth 1)).bind λ(Sa,Ke)=>some (Sa,Ke)) (some (false,DN)))) (some (false,DN))) (some (false,DN))
def Sv{c:Ck}{n:Nd}{depth:Int}{yR:Bool}{Ai:Int}(hS:Sound P G (.call 126 [.ptr 0 0,.agg (Dq n),.zi depth] ⟨[(0,.cells (LH c))],1,[],0⟩ (.ret (.zb yR)) ⟨[(0,.cells (LH ⟨Ai⟩))],1,[],0⟩)):=@ckU _ _ _ _ _ hS (Aq (An.Cv n) (Aq rfl rfl)) rfl
def Qz{c:Ck}{n:Nd}{depth:Int}{yR:Bool}{Ai:Int}:DO  c n depth=some (yR,Ai)->Sound P G (.call 126 [.ptr 0 0,.agg (Dq n),.zi depth] ⟨[(0,.cells (LH c))],1,[],0⟩ (.ret (.zb yR)) ⟨[(0,.cells (LH ⟨Ai⟩))],1,[],0⟩):=by
 refine sM Tryz.func126 ?_;unfold DO;refine Cb λO5 DN CK=>?_;let o1:LP:=[AG (FF (Er CK) 0)];refine Aa ?_ ?_;rintro rfl;refine Ah λy2 E7=>?_;let o2:LP:=o1++[Gc (.r (.g (.r (.r (.r (.r (.r (.r (.r (.r (.z (.z (.r .nil))))))))))) .nil)) (BS E7)];refine Aa ?_ ?_;rintro rfl;refine Aa (λAx=>?_) λAx=>?_;refine Aa (λAL=>?_) λAL=>?_;refine Cb λOU Mn Jb=>?_;rintro⟨⟩;exact gR [] [none] (o2++[pb Ax,pb AL,pk,AG (PU (Oo Jb) 0)]);rintro⟨⟩;exact gR [] [none] (o2++[pb Ax,pb AL]);refine Aa (λBg=>?_) λBg=>?_;refine Ah λx4 Xk=>?_;refine Cb λSa Ke Lb=>?_;rintro⟨⟩;exact gR [] [none] (o2++[pb Ax,pb Bg,Bq (B0 .lost Xk),pk,AG (Bm (NY Lb) 0)]);rintro⟨⟩;exact gR [] [none] (o2++[pb Ax,pb Bg]);rintro rfl;rintro⟨⟩;exact gR [] [none] o2;rintro rfl;rintro⟨⟩;exact gR [] [none] o1
def GF(depth:Int)(i0:Nat)(e0:Nd)(G1:Int):Option (Lp Int Int (Bool×Int)):=(DO (⟨G1⟩:Ck) e0 depth).bind λ(O5,DN)=>cond O5 (some (.nx DN)) (some (.rt (false,DN)))
def ET(c:Ck)(list:(List Nd))(depth:Int):Option (Bool×Int):=(ED list.length (Au (λi y x=>GF  depth i y x) (λx=>x) (list.drop 0) 0 c.nodes)).bind (Eu (λ(Qy:Int)=>some (true,Qy)) (λv=>some v))
def PZ{c:Ck}{list:(List Nd)}{depth:Int}{yR:Bool}{Ai:Int}(hS:Sound P G (.call 79 [.ptr 0 0,.sl .lost list.length (EG list),.zi depth,.fn (.func 126) [.ptr 0 0] []] ⟨[(0,.cells (LH c))],1,[],0⟩ (.ret (.zb yR)) ⟨[(0,.cells (LH ⟨Ai⟩))],1,[],0⟩))(u0:Nat)(RV:([u0]:List Nat).Nodup:=by decide)(TE:([]:List Nat).Nodup:=by decide):Cd.ok P G (.H4 79 [.ptr u0 0,.sl .lost list.length (EG list),.zi depth,.fn (.func 126) [.ptr u0 0] []] (.ret (.zb yR)) [(u0,.cells (LH c))] [] [(u0,.cells (LH ⟨Ai⟩))] []) :=
 Io (M:=[.cells (LH c)]) (M2:=[.cells (LH ⟨Ai⟩)]) (T:=[]) (T2:=[]) (k:=1) (j:=0) Hd.CY _ _ _ _ hS rfl rfl rfl rfl rfl RV TE rfl rfl (.cons (.cells (.pl (tP.pl c))) .nil) (.cons (.cells (.pl (Aq rfl rfl))) .nil) (.cons (.ptr (by decide)) (.cons (.pl (An.Bk list)) (.cons (.pl rfl) (.cons (.fn (.cons (.ptr (by decide)) .nil) (.pl rfl)) .nil)))) (.pl rfl) (λe he=>by simp only[List.mem_singleton] at he;subst he;exact(.arg (.here .ptr)))
def Oi{c:Ck}{list:(List Nd)}{depth:Int}{yR:Bool}{Ai:Int}:ET  c list depth=some (yR,Ai)->Sound P G (.call 79 [.ptr 0 0,.sl .lost list.length (EG list),.zi depth,.fn (.func 126) [.ptr 0 0] []] ⟨[(0,.cells (LH c))],1,[],0⟩ (.ret (.zb yR)) ⟨[(0,.cells (LH ⟨Ai⟩))],1,[],0⟩):=by
 refine sM Tryz.func79 ?_;unfold ET;refine CF (λQ v=>Jm P G Tryz.f79 1 ⟨[(0,.cells (LH c))],1,[],0⟩ Q (.zb v.1) ⟨[(0,.cells [.zi v.2])],1,[],0⟩) 23 [8,14,20,21] (λi0 (G1:Int)=>[(2,.zi depth),(3,.fn (.func 126) [.ptr 0 0] []),(11,.sl .lost list.length (EG list)),(12,.zi ((list.length:Nat):Int)),(13,.zi ((i0:Nat):Int))]) (λG1=>⟨[(0,.cells [.zi G1])],1,[],0⟩) [2,3,11,12,13] [] 0 (sb (Al Tryz.f79) 52) [.code (sb (Al Tryz.f79) 7)] [] ?_ ?_;rintro i0 e0 G1 j0 r B6 Ca BQ k;show GF  depth i0 e0 G1=some r->_;unfold GF;refine Cb λO5 DN CK=>?_;let o1:LP:=[pb (C2 Ca),Bq (B0 .lost B6),AG (Sv (Qz CK) 0)];refine Aa ?_ ?_;rintro rfl;rintro⟨⟩;exact gN [fq (An.Bk list)] [none] (o1++[pi BQ]) k;rintro rfl;rintro⟨⟩;exact gK [] [none] o1 (.Dv k);rintro Qy OV;rintro⟨⟩;exact Om [] [none] []
def D6(DN:Int)(i0:Nat)(e0:Nd)(sF:Int)(rN:Int)(uQ:Int):Option (Lp (Int×Int×Int) (Int×Int×Int) (Bool×Int)):=cond (C3 e0.kind 6) (some (.rt (false,DN))) (cond (C3 8 e0.kind) (some (.rt (false,DN))) (cond (Ba e0.kind 6) (some (.nx ((CE sF 1),rN,uQ))) (cond (Ba e0.kind 7) (some (.nx (sF,(CE rN 1),uQ))) (cond (Ba e0.kind 8) (some (.nx (sF,rN,(CE uQ 1)))) (none)))))
def Em(c:Ck)(n:Nd)(depth:Int):Option (Bool×Int):=(B4 c n depth).bind λ(O5,DN)=>cond O5 (cond (Ba n.kind 2) ((Di n.name).bind λy2=>cond y2 ((Fa n.unit).bind λy3=>cond y3 (cond (Ba ((n.kids.length:Nat):Int) 0) ((BJ n (⟨0,n.name,n.unit,0,0,0,0,(⟨0,[]⟩:Fn),[],0⟩:Nd)).bind λy4=>some (y4,DN)) (some (false,DN))) (some (false,DN))) (some (false,DN))) (cond (Ba n.kind 3) ((Di n.name).bind λy5=>cond y5 ((Fa n.unit).bind λy6=>cond y6 (cond (Iy 1 n.n) (cond (Iy n.n 4) (cond (Ba ((n.kids.length:Nat):Int) 0) ((BJ n (⟨0,n.name,n.unit,n.n,0,0,0,(⟨0,[]⟩:Fn),[],0⟩:Nd)).bind λy7=>some (y7,DN)) (some (false,DN))) (some (false,DN))) (some (false,DN))) (some (false,DN))) (some (false,DN))) (cond (Ba n.kind 4) ((DW n.n).bind λy8=>cond y8 ((Di n.name).bind λy9=>cond y9 ((BJ n (⟨0,n.name,ByteArray.empty,n.n,0,0,0,(⟨0,[]⟩:Fn),[],0⟩:Nd)).bind λYT=>cond YT (cond (Ba ((n.kids.length:Nat):Int) 0) (some (false,DN)) ((Ot n.kids 1 ((n.kids.length:Nat):Int)).bind λj6=>(ED j6.length (Au (λi y x=>D6  DN i y x.1 x.2.1 x.2.2) (λx=>(x.1,x.2.1,x.2.2)) (j6.drop 0) 0 (0,0,0))).bind (Eu (λ((aif,aax,aae):(Int×Int×Int))=>cond (Ba aae 1) (cond (C3 1 aax) (some (false,DN)) ((n.kids[0]?).bind λx13=>(FC (⟨DN⟩:Ck) x13 (CE depth 1)).bind λ(yJ,jN)=>cond yJ ((ET (⟨jN⟩:Ck) j6 (CE depth 1)).bind λ(yG,qB)=>some (yG,qB)) (some (false,jN)))) (some (false,DN))) (λv=>some v)))) (some (false,DN))) (some (false,DN))) (some (false,DN))) (some (false,DN))))) (some (false,DN))
def Ua{c:Ck}{n:Nd}{depth:Int}{yR:Bool}{Ai:Int}(hS:Sound P G (.call 80 [.ptr 0 0,.agg (Dq n),.zi depth] ⟨[(0,.cells (LH c))],1,[],0⟩ (.ret (.zb yR)) ⟨[(0,.cells (LH ⟨Ai⟩))],1,[],0⟩)):=@ckU _ _ _ _ _ hS (Aq (An.Cv n) (Aq rfl rfl)) rfl
def Sd{c:Ck}{n:Nd}{depth:Int}{yR:Bool}{Ai:Int}:Em  c n depth=some (yR,Ai)->Sound P G (.call 80 [.ptr 0 0,.agg (Dq n),.zi depth] ⟨[(0,.cells (LH c))],1,[],0⟩ (.ret (.zb yR)) ⟨[(0,.cells (LH ⟨Ai⟩))],1,[],0⟩):=by
 refine sM Tryz.func80 ?_;unfold Em;refine Cb λO5 DN CK=>?_;let o1:LP:=[AG (FF (Er CK) 0)];refine Aa ?_ ?_;rintro rfl;refine Aa (λAx=>?_) λAx=>?_;refine Ah λy2 E7=>?_;let o2:LP:=o1++[pb Ax,Ag (H8 E7)];refine Aa ?_ ?_;rintro rfl;refine Ah λy3 Jb=>?_;refine Aa ?_ ?_;rintro rfl;refine Aa (λAL=>?_) λAL=>?_;refine Ah λy4 OD=>?_;rintro⟨⟩;exact gR [] [none] (o2++[Ag (Gi Jb),pb AL,Gc (.r (.g (.r (.r (.r (.r (.r (.r (.r (.r (.z (.z (.r .nil))))))))))) .nil)) (BS OD)]);rintro⟨⟩;exact gR [] [none] (o2++[Ag (Gi Jb),pb AL]);rintro rfl;rintro⟨⟩;exact gR [] [none] (o2++[Ag (Gi Jb)]);rintro rfl;rintro⟨⟩;exact gR [] [none] o2;let o3:LP:=o1++[pb Ax];refine Aa (λBg=>?_) λBg=>?_;refine Ah λy5 Lb=>?_;let o4:LP:=o3++[pb Bg,Ag (H8 Lb)];refine Aa ?_ ?_;rintro rfl;refine Ah λy6 Rq=>?_;let o5:LP:=o4++[Ag (Gi Rq)];refine Aa ?_ ?_;rintro rfl;refine Aa (λBu=>?_) λBu=>?_;refine Aa (λBA=>?_) λBA=>?_;refine Aa (λBC=>?_) λBC=>?_;refine Ah λy7 Ub=>?_;rintro⟨⟩;exact gR [] [none] (o5++[pb Bu,pb BA,pb BC,Gc (.r (.g (.r (.r (.r (.r (.r (.r (.r (.r (.z (.z (.r .nil))))))))))) .nil)) (BS Ub)]);rintro⟨⟩;exact gR [] [none] (o5++[pb Bu,pb BA,pb BC]);rintro⟨⟩;exact gR [] [none] (o5++[pb Bu,pb BA]);rintro⟨⟩;exact gR [] [none] (o5++[pb Bu]);rintro rfl;rintro⟨⟩;exact gR [] [none] o5;rintro rfl;rintro⟨⟩;exact gR [] [none] o4;refine Aa (λB7=>?_) λB7=>?_;refine Ah λy8 Xf=>?_;let o6:LP:=o3++[pb Bg,pb B7,Ag (HH Xf)];refine Aa ?_ ?_;rintro rfl;refine Ah λy9 cF=>?_;let o7:LP:=o6++[Ag (H8 cF)];refine Aa ?_ ?_;rintro rfl;refine Ah λYT Pw=>?_;let o8:LP:=o7++[Gc (.r (.g (.r (.r (.r (.r (.r (.r (.r (.r (.z (.z (.r .nil))))))))))) .nil)) (BS Pw)];refine Aa ?_ ?_;rintro rfl;refine Aa (λCX=>?_) λCX=>?_;rintro⟨⟩;exact gR [] [none] (o8++[pb CX]);refine Ah λj6 uT=>?_;refine CF (λQ v=>Jm P G Tryz.f80 1 ⟨[(0,.cells (LH c))],1,[],0⟩ Q (.zb v.1) ⟨[(0,.cells [.zi v.2])],1,[],0⟩) 158 [6,13,14,17,18,21,22,25,26,27,31,32,33,40,41,42,43,46,47,50,51,52,55,56,57,60,61,62,66,67,68,77,78,79,80,83,84,85,88,89,90,91,98,99,100,101,105,106,113,118,119,122,123,133,134,137,138,146,147,156,157] (λi0 ((sF,rN,uQ):(Int×Int×Int))=>[(0,.ptr 0 0),(2,.zi depth),(4,.ptr 1 0),(7,.ptr 2 0),(110,.sl .lost j6.length (EG j6)),(111,.zi ((j6.length:Nat):Int)),(112,.zi ((i0:Nat):Int))]) (λ(sF,rN,uQ)=>⟨[(2,.cells [.zi 0,.zi 0,.zi 0,.zi 0,.zi 0,.zi 0,.zi sF,.zi rN,.zi uQ]),(1,.cells (Dq n)),(0,.cells [.zi DN])],3,[],0⟩) [110,111,112] [] 1 (sb (Al Tryz.f80) 241588) [.code (sb (Al Tryz.f80) 30199),.Px 0,.code (sb (Al Tryz.f80) 15)] (o8++[pb CX,YJ (Mg uT)]) ?_ ?_;rintro i0 e0 ⟨sF,rN,uQ⟩ j0 r B6 Ca BQ k;show D6  DN i0 e0 sF rN uQ=some r->_;unfold D6;let o9:LP:=[pb (C2 Ca),Bq (B0 .lost B6)];refine Aa (λDR=>?_) λDR=>?_;rintro⟨⟩;exact gK [] [none] (o9++[pb DR]) (.Dv k);refine Aa (λBM=>?_) λBM=>?_;rintro⟨⟩;exact gK [] [none] (o9++[pb DR,pb BM]) (.Dv k);refine Aa (λCL=>?_) λCL=>?_;rintro⟨⟩;exact gN [fq (An.Bk j6)] [none,bp (An.pl n),none] (o9++[pb DR,pb BM,Bq (t:=159) (a:=.ptr 2 0) (b:=.zi e0.kind) (v:=.ptr 2 6) (by rw[Fq CL];kernel_rfl),pk,Bq (t:=159) (a:=.ptr 2 0) (b:=.zi e0.kind) (v:=.ptr 2 6) (by rw[Fq CL];kernel_rfl),pi BQ]) k;refine Aa (λCs=>?_) λCs=>?_;rintro⟨⟩;exact gN [fq (An.Bk j6)] [none,bp (An.pl n),none] (o9++[pb DR,pb BM,Bq (t:=159) (a:=.ptr 2 0) (b:=.zi e0.kind) (v:=.ptr 2 7) (by rw[Fq Cs];kernel_rfl),pk,Bq (t:=159) (a:=.ptr 2 0) (b:=.zi e0.kind) (v:=.ptr 2 7) (by rw[Fq Cs];kernel_rfl),pi BQ]) k;refine Aa (λDh=>?_) λDh=>?_;rintro⟨⟩;exact gN [fq (An.Bk j6)] [none,bp (An.pl n),none] (o9++[pb DR,pb BM,Bq (t:=159) (a:=.ptr 2 0) (b:=.zi e0.kind) (v:=.ptr 2 8) (by rw[Fq Dh];kernel_rfl),pk,Bq (t:=159) (a:=.ptr 2 0) (b:=.zi e0.kind) (v:=.ptr 2 8) (by rw[Fq Dh];kernel_rfl),pi BQ]) k;exact ang;rintro⟨aif,aax,aae⟩ at0;dsimp only;refine Aa (λDG=>?_) λDG=>?_;refine Aa (λDp=>?_) λDp=>?_;rintro⟨⟩;exact Om [] [none] [pk,pn DG,pk,pb Dp];refine Ah λx13 akW=>?_;refine Cb λyJ jN Tl=>?_;let So:LP:=[pk,pn DG,pk,pb Dp,Bq (B0 .lost akW),pk,AG (T6 (RT Tl) 0)];refine Aa ?_ ?_;rintro rfl;refine Cb λyG qB VG=>?_;rintro⟨⟩;exact Om [] [none] (So++[YJ (Mg uT),pk,AG (PZ (Oi VG) 0)]);rintro rfl;rintro⟨⟩;exact Om [] [none] So;rintro⟨⟩;exact Om [] [none] [pk,pn DG];rintro rfl;rintro⟨⟩;exact gR [] [none] o8;rintro rfl;rintro⟨⟩;exact gR [] [none] o7;rintro rfl;rintro⟨⟩;exact gR [] [none] o6;rintro⟨⟩;exact gR [] [none] (o3++[pb Bg,pb B7]);rintro rfl;rintro⟨⟩;exact gR [] [none] o1
end Mo
end Go.Proofs.YtnijkdknnmgoeaaGreat
