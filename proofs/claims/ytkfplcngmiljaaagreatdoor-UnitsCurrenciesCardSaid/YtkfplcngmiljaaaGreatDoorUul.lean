/- Part of a proof: see the last text. -/
import Derived.Test.YtkfplcngmiljaaaGreatDoorUuk
set_option linter.unusedVariables false
set_option linter.unusedSimpArgs false
namespace Go.Proofs.YtkfplcngmiljaaaGreatDoor
open AI Go
namespace Mo
set_option maxRecDepth 100000
set_option maxHeartbeats 4000000
noncomputable def uL:Code:=A4 Tryz.f90
theorem b90:Tryz.f90.body=some uL:=by kernel_rfl
noncomputable def GZ (Et:Nd→Int→Option Bool) (limit:Int) (i0:Nat) (e0:Nd) :Option (Lp Unit Unit Bool):=(Et e0 (Rh limit 1)).bind fun y1=>cond y1 (some (.nx ())) (some (.rt false))
noncomputable def HN (Et:Nd→Int→Option Bool) (n:Nd) (limit:Int):Option Bool:=cond (FQ limit 1) (some false) ((Gy n.kids.length (AT (fun i y x=>GZ Et limit i y ) (fun x=>()) (n.kids.drop 0) 0 ())).bind (GA (fun (_:Unit)=>some true) (fun v=>some v)))
theorem NT (Et:Nd→Int→Option Bool) (K3:∀ {n:Nd} {limit:Int} {yR:Bool},Et n limit=some yR→Pure P G 90 [.agg (Ba n),.sc (.int .i64 limit)] (.sc (.bool yR))) {n:Nd} {limit:Int} {yR:Bool} (h:HN Et n limit=some yR):Pure P G 90 [.agg (Ba n),.sc (.int .i64 limit)] (.sc (.bool yR)):=by
 unfold HN at h
 refine BK Hd.mixed Hd.Ac (AJ Tryz.func90 b90 ?_) (Bo (Am.F0 n) (Bo rfl rfl)) rfl
 revert h
 refine Ae (fun hb1=>?_) fun hb1=>?_
 rintro ⟨⟩
 exact rS (Aa 300 [pb hb1]) (by kernel_rfl)
 refine DQ (fun Q v=>DS P Tryz.f90 0 Q (.sc (.bool v))) (fun i0 (_:Unit) (j0:List Value)=>fr 24 [(1,.sc (.int .i64 limit)),(2,.ptr 0 0),(5,.sc (.int .i64 ((i0:Nat):Int)))] [4,7,12,22,23] j0) (fun (_:Unit)=>⟨[(0,.cells (Ba n))],1,[],0⟩) (fun (_:Unit) (jx:List Value)=>fr 24 [] [4,7,12,22,23] jx) (fun (_:Unit)=>⟨[(0,.cells (Ba n))],1,[],0⟩) [.bool false,.bool false] (DI [] 0 (sb uL 116) [.code (sb uL 15)] (Aa 300 [pb hb1]) (by kernel_rfl)) ?_ ?_ ?_ (fun v h=>by cases h;exact .outer .body)
 rintro i0 ⟨⟩ j0 hge hq
 exact B8 (Aa 300 [pb (IG hge)]) (by kernel_rfl) (hq (js 5 j0 [(2,.bool false)]))
 rintro i0 e0 ⟨⟩ j0 r he0 hi0 mi0 k
 show GZ Et limit i0 e0 =some r→_
 unfold GZ
 refine Aj fun y1 hy1=>?_
 refine Ae (fun hv=>?_) fun hv=>?_
 subst hv
 rintro ⟨⟩
 exact De (Aa 300 [pb (F6 hi0),CP (Bz .lost he0),pk,Ak (K3 hy1),pi mi0]) (by kernel_rfl) (k [(jv j0 0),(jv j0 1),.bool true,.bool true,.bool false])
 subst hv
 rintro ⟨⟩
 exact AB _ _ (Aa 300 [pb (F6 hi0),CP (Bz .lost he0),pk,Ak (K3 hy1)]) (by kernel_rfl) (.GX k) .sc
 rintro ⟨⟩ jx_2
 intro h
 have hE:=Option.some.inj h
 subst hE
 exact AB _ _ (BX 300 []) (by kernel_rfl) .body .sc
noncomputable def DN:Nat→Nd→Int→Option Bool
 | 0,_,_=>none
 | qn+1,n,limit=>HN (DN qn) n limit
theorem PF:∀ qn:Nat,∀ {n:Nd} {limit:Int} {yR:Bool},DN qn n limit=some yR→Pure P G 90 [.agg (Ba n),.sc (.int .i64 limit)] (.sc (.bool yR)):=by
 intro qn
 induction qn with
 | zero=>exact (fun h=>by simp only [DN] at h;cases h)
 | succ qn ih=>exact (fun h=>NT (DN qn) ih (by rw [DN] at h;exact h))
noncomputable def Jy (n:Nd) (limit:Int):Option Bool:=W4 (fun qn=>DN qn n limit)
theorem PW {n:Nd} {limit:Int} {yR:Bool} (h:Jy n limit=some yR):Pure P G 90 [.agg (Ba n),.sc (.int .i64 limit)] (.sc (.bool yR)):=by
 obtain ⟨qn,h⟩:=Uf h
 exact (PF qn) h
noncomputable def B63:Code:=A4 Tryz.f63
theorem b63:Tryz.f63.body=some B63:=by kernel_rfl
noncomputable def Gb  (n:Nd):Option Bool:=(DR n 2000).bind fun y1=>cond y1 ((Jy n 40).bind fun y2=>some y2) (some false)
theorem Hl   {n:Nd} {yR:Bool} (h:Gb  n=some yR):Pure P G 63 [.agg (Ba n)] (.sc (.bool yR)):=by
 unfold Gb at h
 refine BK Hd.mixed Hd.Ac (AJ Tryz.func63 b63 ?_) (Bo (Am.F0 n) rfl) rfl
 revert h
 refine Aj fun y1 hy1=>?_
 refine Ae (fun hv=>?_) fun hv=>?_
 subst hv
 refine Aj fun y2 hy2=>?_
 intro h
 have hE:=Option.some.inj h
 subst hE
 exact rS (Aa 300 [Ak (EX hy1),Ak (PW hy2)]) (by kernel_rfl)
 subst hv
 rintro ⟨⟩
 exact rS (Aa 300 [Ak (EX hy1)]) (by kernel_rfl)
noncomputable def B66:Code:=A4 Tryz.f66
theorem ZR:Tryz.f66.body=some B66:=by kernel_rfl
noncomputable def C0  (n:Nd):Option Bool:=cond (BJ n.name.data.toList ByteArray.empty.data.toList) (cond (BJ n.unit.data.toList ByteArray.empty.data.toList) (cond (Bs n.n 0) (cond (Bs n.fr 0) (cond (Bs n.to 0) (cond (Bs n.known 0) (cond (Bs n.tab.den 0) (cond (Bs ((n.tab.ps.length:Nat):Int) 0) (some true) (some false)) (some false)) (some false)) (some false)) (some false)) (some false)) (some false)) (some false)
theorem FA   {n:Nd} {yR:Bool} (h:C0  n=some yR):Pure P G 66 [.agg (Ba n),.sc (.int .i64 32)] (.sc (.bool yR)):=by
 unfold C0 at h
 refine BK Hd.mixed Hd.Ac (AJ Tryz.func66 ZR ?_) (Bo (Am.F0 n) (Bo rfl rfl)) rfl
 revert h
 refine Ae (fun hb1=>?_) fun hb1=>?_
 let o1:List (PC P G):=[pk,pk,pb hb1,pk,pk]
 refine Ae (fun hb2=>?_) fun hb2=>?_
 let o2:List (PC P G):=o1++[pb hb2,pk,pk]
 refine Ae (fun hb3=>?_) fun hb3=>?_
 let o3:List (PC P G):=o2++[pb hb3,pk,pk]
 refine Ae (fun hb4=>?_) fun hb4=>?_
 refine Ae (fun hb5=>?_) fun hb5=>?_
 refine Ae (fun hb6=>?_) fun hb6=>?_
 refine Ae (fun hb7=>?_) fun hb7=>?_
 refine Ae (fun hb8=>?_) fun hb8=>?_
 rintro ⟨⟩
 exact rS (Aa 300 (o3++[pb hb4,pb hb5,pb hb6,pk,pk,pb hb7,pb hb8,pk,pk])) (by kernel_rfl)
 rintro ⟨⟩
 exact rS (Aa 300 (o3++[pb hb4,pb hb5,pb hb6,pk,pk,pb hb7,pb hb8])) (by kernel_rfl)
 rintro ⟨⟩
 exact rS (Aa 300 (o3++[pb hb4,pb hb5,pb hb6,pk,pk,pb hb7])) (by kernel_rfl)
 rintro ⟨⟩
 exact rS (Aa 300 (o3++[pb hb4,pb hb5,pb hb6])) (by kernel_rfl)
 rintro ⟨⟩
 exact rS (Aa 300 (o3++[pb hb4,pb hb5])) (by kernel_rfl)
 rintro ⟨⟩
 exact rS (Aa 300 (o3++[pb hb4])) (by kernel_rfl)
 rintro ⟨⟩
 exact rS (Aa 300 (o2++[pb hb3])) (by kernel_rfl)
 rintro ⟨⟩
 exact rS (Aa 300 (o1++[pb hb2])) (by kernel_rfl)
 rintro ⟨⟩
 exact rS (Aa 300 [pk,pk,pb hb1]) (by kernel_rfl)
noncomputable def DL  (n:Nd):Option Bool:=cond (BJ n.name.data.toList ByteArray.empty.data.toList) (cond (Bs n.fr 0) (cond (Bs n.to 0) (cond (Bs n.known 0) (cond (Bs n.tab.den 0) (cond (Bs ((n.tab.ps.length:Nat):Int) 0) (cond (Bs ((n.kids.length:Nat):Int) 0) (some true) (some false)) (some false)) (some false)) (some false)) (some false)) (some false)) (some false)
theorem IC   {n:Nd} {yR:Bool} (h:DL  n=some yR):Pure P G 66 [.agg (Ba n),.sc (.int .i64 6)] (.sc (.bool yR)):=by
 unfold DL at h
 refine BK Hd.mixed Hd.Ac (AJ Tryz.func66 ZR ?_) (Bo (Am.F0 n) (Bo rfl rfl)) rfl
 revert h
 refine Ae (fun hb1=>?_) fun hb1=>?_
 let o1:List (PC P G):=[pk,pk,pb hb1,pk,pk,pk,pk,pk,pk]
 refine Ae (fun hb2=>?_) fun hb2=>?_
 refine Ae (fun hb3=>?_) fun hb3=>?_
 refine Ae (fun hb4=>?_) fun hb4=>?_
 let o2:List (PC P G):=o1++[pb hb2,pb hb3,pb hb4,pk,pk]
 refine Ae (fun hb5=>?_) fun hb5=>?_
 refine Ae (fun hb6=>?_) fun hb6=>?_
 refine Ae (fun hb7=>?_) fun hb7=>?_
 rintro ⟨⟩
 exact rS (Aa 300 (o2++[pb hb5,pb hb6,pk,pk,pb hb7])) (by kernel_rfl)
 rintro ⟨⟩
 exact rS (Aa 300 (o2++[pb hb5,pb hb6,pk,pk,pb hb7])) (by kernel_rfl)
 rintro ⟨⟩
 exact rS (Aa 300 (o2++[pb hb5,pb hb6])) (by kernel_rfl)
 rintro ⟨⟩
 exact rS (Aa 300 (o2++[pb hb5])) (by kernel_rfl)
 rintro ⟨⟩
 exact rS (Aa 300 (o1++[pb hb2,pb hb3,pb hb4])) (by kernel_rfl)
 rintro ⟨⟩
 exact rS (Aa 300 (o1++[pb hb2,pb hb3])) (by kernel_rfl)
 rintro ⟨⟩
 exact rS (Aa 300 (o1++[pb hb2])) (by kernel_rfl)
 rintro ⟨⟩
 exact rS (Aa 300 [pk,pk,pb hb1]) (by kernel_rfl)
noncomputable def DK  (n:Nd):Option Bool:=cond (BJ n.unit.data.toList ByteArray.empty.data.toList) (cond (Bs n.n 0) (cond (Bs n.fr 0) (cond (Bs n.to 0) (cond (Bs n.known 0) (cond (Bs n.tab.den 0) (cond (Bs ((n.tab.ps.length:Nat):Int) 0) (cond (Bs ((n.kids.length:Nat):Int) 0) (some true) (some false)) (some false)) (some false)) (some false)) (some false)) (some false)) (some false)) (some false)
theorem Ef   {n:Nd} {yR:Bool} (h:DK  n=some yR):Pure P G 66 [.agg (Ba n),.sc (.int .i64 1)] (.sc (.bool yR)):=by
 unfold DK at h
 refine BK Hd.mixed Hd.Ac (AJ Tryz.func66 ZR ?_) (Bo (Am.F0 n) (Bo rfl rfl)) rfl
 revert h
 let o1:List (PC P G):=[pk,pk,pk,pk]
 refine Ae (fun hb1=>?_) fun hb1=>?_
 let o2:List (PC P G):=o1++[pb hb1,pk,pk]
 refine Ae (fun hb2=>?_) fun hb2=>?_
 let o3:List (PC P G):=o2++[pb hb2,pk,pk]
 refine Ae (fun hb3=>?_) fun hb3=>?_
 refine Ae (fun hb4=>?_) fun hb4=>?_
 refine Ae (fun hb5=>?_) fun hb5=>?_
 let o4:List (PC P G):=o3++[pb hb3,pb hb4,pb hb5,pk,pk]
 refine Ae (fun hb6=>?_) fun hb6=>?_
 refine Ae (fun hb7=>?_) fun hb7=>?_
 refine Ae (fun hb8=>?_) fun hb8=>?_
 rintro ⟨⟩
 exact rS (Aa 300 (o4++[pb hb6,pb hb7,pk,pk,pb hb8])) (by kernel_rfl)
 rintro ⟨⟩
 exact rS (Aa 300 (o4++[pb hb6,pb hb7,pk,pk,pb hb8])) (by kernel_rfl)
 rintro ⟨⟩
 exact rS (Aa 300 (o4++[pb hb6,pb hb7])) (by kernel_rfl)
 rintro ⟨⟩
 exact rS (Aa 300 (o4++[pb hb6])) (by kernel_rfl)
 rintro ⟨⟩
 exact rS (Aa 300 (o3++[pb hb3,pb hb4,pb hb5])) (by kernel_rfl)
 rintro ⟨⟩
 exact rS (Aa 300 (o3++[pb hb3,pb hb4])) (by kernel_rfl)
 rintro ⟨⟩
 exact rS (Aa 300 (o3++[pb hb3])) (by kernel_rfl)
 rintro ⟨⟩
 exact rS (Aa 300 (o2++[pb hb2])) (by kernel_rfl)
 rintro ⟨⟩
 exact rS (Aa 300 (o1++[pb hb1])) (by kernel_rfl)
noncomputable def Ez  (n:Nd):Option Bool:=cond (BJ n.name.data.toList ByteArray.empty.data.toList) (cond (BJ n.unit.data.toList ByteArray.empty.data.toList) (cond (Bs n.fr 0) (cond (Bs n.to 0) (cond (Bs n.known 0) (cond (Bs n.tab.den 0) (cond (Bs ((n.tab.ps.length:Nat):Int) 0) (cond (Bs ((n.kids.length:Nat):Int) 0) (some true) (some false)) (some false)) (some false)) (some false)) (some false)) (some false)) (some false)) (some false)
theorem Iq   {n:Nd} {yR:Bool} (h:Ez  n=some yR):Pure P G 66 [.agg (Ba n),.sc (.int .i64 4)] (.sc (.bool yR)):=by
 unfold Ez at h
 refine BK Hd.mixed Hd.Ac (AJ Tryz.func66 ZR ?_) (Bo (Am.F0 n) (Bo rfl rfl)) rfl
 revert h
 refine Ae (fun hb1=>?_) fun hb1=>?_
 let o1:List (PC P G):=[pk,pk,pb hb1,pk,pk]
 refine Ae (fun hb2=>?_) fun hb2=>?_
 let o2:List (PC P G):=o1++[pb hb2,pk,pk,pk,pk]
 refine Ae (fun hb3=>?_) fun hb3=>?_
 refine Ae (fun hb4=>?_) fun hb4=>?_
 refine Ae (fun hb5=>?_) fun hb5=>?_
 let o3:List (PC P G):=o2++[pb hb3,pb hb4,pb hb5,pk,pk]
 refine Ae (fun hb6=>?_) fun hb6=>?_
 refine Ae (fun hb7=>?_) fun hb7=>?_
 refine Ae (fun hb8=>?_) fun hb8=>?_
 rintro ⟨⟩
 exact rS (Aa 300 (o3++[pb hb6,pb hb7,pk,pk,pb hb8])) (by kernel_rfl)
 rintro ⟨⟩
 exact rS (Aa 300 (o3++[pb hb6,pb hb7,pk,pk,pb hb8])) (by kernel_rfl)
 rintro ⟨⟩
 exact rS (Aa 300 (o3++[pb hb6,pb hb7])) (by kernel_rfl)
 rintro ⟨⟩
 exact rS (Aa 300 (o3++[pb hb6])) (by kernel_rfl)
 rintro ⟨⟩
 exact rS (Aa 300 (o2++[pb hb3,pb hb4,pb hb5])) (by kernel_rfl)
 rintro ⟨⟩
 exact rS (Aa 300 (o2++[pb hb3,pb hb4])) (by kernel_rfl)
 rintro ⟨⟩
 exact rS (Aa 300 (o2++[pb hb3])) (by kernel_rfl)
 rintro ⟨⟩
 exact rS (Aa 300 (o1++[pb hb2])) (by kernel_rfl)
 rintro ⟨⟩
 exact rS (Aa 300 [pk,pk,pb hb1]) (by kernel_rfl)
noncomputable def Dx  (n:Nd):Option Bool:=cond (BJ n.unit.data.toList ByteArray.empty.data.toList) (cond (Bs n.n 0) (cond (Bs n.fr 0) (cond (Bs n.to 0) (cond (Bs n.known 0) (cond (Bs n.tab.den 0) (cond (Bs ((n.tab.ps.length:Nat):Int) 0) (some true) (some false)) (some false)) (some false)) (some false)) (some false)) (some false)) (some false)
theorem Hu   {n:Nd} {yR:Bool} (h:Dx  n=some yR):Pure P G 66 [.agg (Ba n),.sc (.int .i64 33)] (.sc (.bool yR)):=by
 unfold Dx at h
 refine BK Hd.mixed Hd.Ac (AJ Tryz.func66 ZR ?_) (Bo (Am.F0 n) (Bo rfl rfl)) rfl
 revert h
 let o1:List (PC P G):=[pk,pk,pk,pk]
 refine Ae (fun hb1=>?_) fun hb1=>?_
 let o2:List (PC P G):=o1++[pb hb1,pk,pk]
 refine Ae (fun hb2=>?_) fun hb2=>?_
 let o3:List (PC P G):=o2++[pb hb2,pk,pk]
 refine Ae (fun hb3=>?_) fun hb3=>?_
 refine Ae (fun hb4=>?_) fun hb4=>?_
 refine Ae (fun hb5=>?_) fun hb5=>?_
 refine Ae (fun hb6=>?_) fun hb6=>?_
 refine Ae (fun hb7=>?_) fun hb7=>?_
 rintro ⟨⟩
 exact rS (Aa 300 (o3++[pb hb3,pb hb4,pb hb5,pk,pk,pb hb6,pb hb7,pk,pk])) (by kernel_rfl)
 rintro ⟨⟩
 exact rS (Aa 300 (o3++[pb hb3,pb hb4,pb hb5,pk,pk,pb hb6,pb hb7])) (by kernel_rfl)
 rintro ⟨⟩
 exact rS (Aa 300 (o3++[pb hb3,pb hb4,pb hb5,pk,pk,pb hb6])) (by kernel_rfl)
 rintro ⟨⟩
 exact rS (Aa 300 (o3++[pb hb3,pb hb4,pb hb5])) (by kernel_rfl)
 rintro ⟨⟩
 exact rS (Aa 300 (o3++[pb hb3,pb hb4])) (by kernel_rfl)
 rintro ⟨⟩
 exact rS (Aa 300 (o3++[pb hb3])) (by kernel_rfl)
 rintro ⟨⟩
 exact rS (Aa 300 (o2++[pb hb2])) (by kernel_rfl)
 rintro ⟨⟩
 exact rS (Aa 300 (o1++[pb hb1])) (by kernel_rfl)
noncomputable def D7  (n:Nd):Option Bool:=cond (BJ n.name.data.toList ByteArray.empty.data.toList) (cond (BJ n.unit.data.toList ByteArray.empty.data.toList) (cond (Bs n.n 0) (cond (Bs n.fr 0) (cond (Bs n.to 0) (cond (Bs n.known 0) (some true) (some false)) (some false)) (some false)) (some false)) (some false)) (some false)
theorem KS   {n:Nd} {yR:Bool} (h:D7  n=some yR):Pure P G 66 [.agg (Ba n),.sc (.int .i64 48)] (.sc (.bool yR)):=by
 unfold D7 at h
 refine BK Hd.mixed Hd.Ac (AJ Tryz.func66 ZR ?_) (Bo (Am.F0 n) (Bo rfl rfl)) rfl
 revert h
 refine Ae (fun hb1=>?_) fun hb1=>?_
 let o1:List (PC P G):=[pk,pk,pb hb1,pk,pk]
 refine Ae (fun hb2=>?_) fun hb2=>?_
 refine Ae (fun hb3=>?_) fun hb3=>?_
 let o2:List (PC P G):=o1++[pb hb2,pk,pk,pb hb3,pk,pk]
 refine Ae (fun hb4=>?_) fun hb4=>?_
 refine Ae (fun hb5=>?_) fun hb5=>?_
 refine Ae (fun hb6=>?_) fun hb6=>?_
 rintro ⟨⟩
 exact rS (Aa 300 (o2++[pb hb4,pb hb5,pb hb6,pk,pk,pk,pk])) (by kernel_rfl)
 rintro ⟨⟩
 exact rS (Aa 300 (o2++[pb hb4,pb hb5,pb hb6])) (by kernel_rfl)
 rintro ⟨⟩
 exact rS (Aa 300 (o2++[pb hb4,pb hb5])) (by kernel_rfl)
 rintro ⟨⟩
 exact rS (Aa 300 (o2++[pb hb4])) (by kernel_rfl)
 rintro ⟨⟩
 exact rS (Aa 300 (o1++[pb hb2,pk,pk,pb hb3])) (by kernel_rfl)
 rintro ⟨⟩
 exact rS (Aa 300 (o1++[pb hb2])) (by kernel_rfl)
 rintro ⟨⟩
 exact rS (Aa 300 [pk,pk,pb hb1]) (by kernel_rfl)
noncomputable def CT  (n:Nd):Option Bool:=cond (Bs n.n 0) (cond (Bs n.fr 0) (cond (Bs n.to 0) (cond (Bs n.known 0) (cond (Bs n.tab.den 0) (cond (Bs ((n.tab.ps.length:Nat):Int) 0) (cond (Bs ((n.kids.length:Nat):Int) 0) (some true) (some false)) (some false)) (some false)) (some false)) (some false)) (some false)) (some false)
theorem B1   {n:Nd} {yR:Bool} (h:CT  n=some yR):Pure P G 66 [.agg (Ba n),.sc (.int .i64 3)] (.sc (.bool yR)):=by
 unfold CT at h
 refine BK Hd.mixed Hd.Ac (AJ Tryz.func66 ZR ?_) (Bo (Am.F0 n) (Bo rfl rfl)) rfl
 revert h
 let o1:List (PC P G):=[pk,pk,pk,pk,pk,pk]
 refine Ae (fun hb1=>?_) fun hb1=>?_
 let o2:List (PC P G):=o1++[pb hb1,pk,pk]
 refine Ae (fun hb2=>?_) fun hb2=>?_
 refine Ae (fun hb3=>?_) fun hb3=>?_
 refine Ae (fun hb4=>?_) fun hb4=>?_
 let o3:List (PC P G):=o2++[pb hb2,pb hb3,pb hb4,pk,pk]
 refine Ae (fun hb5=>?_) fun hb5=>?_
 refine Ae (fun hb6=>?_) fun hb6=>?_
 refine Ae (fun hb7=>?_) fun hb7=>?_
 rintro ⟨⟩
 exact rS (Aa 300 (o3++[pb hb5,pb hb6,pk,pk,pb hb7])) (by kernel_rfl)
 rintro ⟨⟩
 exact rS (Aa 300 (o3++[pb hb5,pb hb6,pk,pk,pb hb7])) (by kernel_rfl)
 rintro ⟨⟩
 exact rS (Aa 300 (o3++[pb hb5,pb hb6])) (by kernel_rfl)
 rintro ⟨⟩
 exact rS (Aa 300 (o3++[pb hb5])) (by kernel_rfl)
 rintro ⟨⟩
 exact rS (Aa 300 (o2++[pb hb2,pb hb3,pb hb4])) (by kernel_rfl)
 rintro ⟨⟩
 exact rS (Aa 300 (o2++[pb hb2,pb hb3])) (by kernel_rfl)
 rintro ⟨⟩
 exact rS (Aa 300 (o2++[pb hb2])) (by kernel_rfl)
 rintro ⟨⟩
 exact rS (Aa 300 (o1++[pb hb1])) (by kernel_rfl)
noncomputable def CS  (n:Nd):Option Bool:=cond (Bs n.fr 0) (cond (Bs n.to 0) (cond (Bs n.known 0) (cond (Bs n.tab.den 0) (cond (Bs ((n.tab.ps.length:Nat):Int) 0) (cond (Bs ((n.kids.length:Nat):Int) 0) (some true) (some false)) (some false)) (some false)) (some false)) (some false)) (some false)
theorem Cv   {n:Nd} {yR:Bool} (h:CS  n=some yR):Pure P G 66 [.agg (Ba n),.sc (.int .i64 7)] (.sc (.bool yR)):=by
 unfold CS at h
 refine BK Hd.mixed Hd.Ac (AJ Tryz.func66 ZR ?_) (Bo (Am.F0 n) (Bo rfl rfl)) rfl
 revert h
 let o1:List (PC P G):=[pk,pk,pk,pk,pk,pk,pk,pk]
 refine Ae (fun hb1=>?_) fun hb1=>?_
 refine Ae (fun hb2=>?_) fun hb2=>?_
 refine Ae (fun hb3=>?_) fun hb3=>?_
 let o2:List (PC P G):=o1++[pb hb1,pb hb2,pb hb3,pk,pk]
 refine Ae (fun hb4=>?_) fun hb4=>?_
 refine Ae (fun hb5=>?_) fun hb5=>?_
 refine Ae (fun hb6=>?_) fun hb6=>?_
 rintro ⟨⟩
 exact rS (Aa 300 (o2++[pb hb4,pb hb5,pk,pk,pb hb6])) (by kernel_rfl)
 rintro ⟨⟩
 exact rS (Aa 300 (o2++[pb hb4,pb hb5,pk,pk,pb hb6])) (by kernel_rfl)
 rintro ⟨⟩
 exact rS (Aa 300 (o2++[pb hb4,pb hb5])) (by kernel_rfl)
 rintro ⟨⟩
 exact rS (Aa 300 (o2++[pb hb4])) (by kernel_rfl)
 rintro ⟨⟩
 exact rS (Aa 300 (o1++[pb hb1,pb hb2,pb hb3])) (by kernel_rfl)
 rintro ⟨⟩
 exact rS (Aa 300 (o1++[pb hb1,pb hb2])) (by kernel_rfl)
 rintro ⟨⟩
 exact rS (Aa 300 (o1++[pb hb1])) (by kernel_rfl)
noncomputable def Cy  (n:Nd):Option Bool:=cond (BJ n.unit.data.toList ByteArray.empty.data.toList) (cond (Bs n.fr 0) (cond (Bs n.to 0) (cond (Bs n.known 0) (cond (Bs n.tab.den 0) (cond (Bs ((n.tab.ps.length:Nat):Int) 0) (some true) (some false)) (some false)) (some false)) (some false)) (some false)) (some false)
theorem D4   {n:Nd} {yR:Bool} (h:Cy  n=some yR):Pure P G 66 [.agg (Ba n),.sc (.int .i64 37)] (.sc (.bool yR)):=by
 unfold Cy at h
 refine BK Hd.mixed Hd.Ac (AJ Tryz.func66 ZR ?_) (Bo (Am.F0 n) (Bo rfl rfl)) rfl
 revert h
 let o1:List (PC P G):=[pk,pk,pk,pk]
 refine Ae (fun hb1=>?_) fun hb1=>?_
 let o2:List (PC P G):=o1++[pb hb1,pk,pk,pk,pk]
 refine Ae (fun hb2=>?_) fun hb2=>?_
 refine Ae (fun hb3=>?_) fun hb3=>?_
 refine Ae (fun hb4=>?_) fun hb4=>?_
 refine Ae (fun hb5=>?_) fun hb5=>?_
 refine Ae (fun hb6=>?_) fun hb6=>?_
 rintro ⟨⟩
 exact rS (Aa 300 (o2++[pb hb2,pb hb3,pb hb4,pk,pk,pb hb5,pb hb6,pk,pk])) (by kernel_rfl)
 rintro ⟨⟩
 exact rS (Aa 300 (o2++[pb hb2,pb hb3,pb hb4,pk,pk,pb hb5,pb hb6])) (by kernel_rfl)
 rintro ⟨⟩
 exact rS (Aa 300 (o2++[pb hb2,pb hb3,pb hb4,pk,pk,pb hb5])) (by kernel_rfl)
 rintro ⟨⟩
 exact rS (Aa 300 (o2++[pb hb2,pb hb3,pb hb4])) (by kernel_rfl)
 rintro ⟨⟩
 exact rS (Aa 300 (o2++[pb hb2,pb hb3])) (by kernel_rfl)
 rintro ⟨⟩
 exact rS (Aa 300 (o2++[pb hb2])) (by kernel_rfl)
 rintro ⟨⟩
 exact rS (Aa 300 (o1++[pb hb1])) (by kernel_rfl)
noncomputable def Eb  (n:Nd):Option Bool:=cond (BJ n.name.data.toList ByteArray.empty.data.toList) (cond (BJ n.unit.data.toList ByteArray.empty.data.toList) (cond (Bs n.tab.den 0) (cond (Bs ((n.tab.ps.length:Nat):Int) 0) (cond (Bs ((n.kids.length:Nat):Int) 0) (some true) (some false)) (some false)) (some false)) (some false)) (some false)
theorem KW   {n:Nd} {yR:Bool} (h:Eb  n=some yR):Pure P G 66 [.agg (Ba n),.sc (.int .i64 12)] (.sc (.bool yR)):=by
 unfold Eb at h
 refine BK Hd.mixed Hd.Ac (AJ Tryz.func66 ZR ?_) (Bo (Am.F0 n) (Bo rfl rfl)) rfl
 revert h
 refine Ae (fun hb1=>?_) fun hb1=>?_
 let o1:List (PC P G):=[pk,pk,pb hb1,pk,pk]
 refine Ae (fun hb2=>?_) fun hb2=>?_
 let o2:List (PC P G):=o1++[pb hb2,pk,pk,pk,pk,pk,pk]
 refine Ae (fun hb3=>?_) fun hb3=>?_
 refine Ae (fun hb4=>?_) fun hb4=>?_
 refine Ae (fun hb5=>?_) fun hb5=>?_
 rintro ⟨⟩
 exact rS (Aa 300 (o2++[pb hb3,pb hb4,pk,pk,pb hb5])) (by kernel_rfl)
 rintro ⟨⟩
 exact rS (Aa 300 (o2++[pb hb3,pb hb4,pk,pk,pb hb5])) (by kernel_rfl)
 rintro ⟨⟩
 exact rS (Aa 300 (o2++[pb hb3,pb hb4])) (by kernel_rfl)
 rintro ⟨⟩
 exact rS (Aa 300 (o2++[pb hb3])) (by kernel_rfl)
 rintro ⟨⟩
 exact rS (Aa 300 (o1++[pb hb2])) (by kernel_rfl)
 rintro ⟨⟩
 exact rS (Aa 300 [pk,pk,pb hb1]) (by kernel_rfl)
noncomputable def B91:Code:=A4 Tryz.f91
theorem b91:Tryz.f91.body=some B91:=by kernel_rfl
noncomputable def AQ  (n:Int) (low:Int) (high:Int):Option Bool:=cond (KT low n) (cond (KT n high) (some true) (some false)) (some false)
theorem Au   {n:Int} {low:Int} {high:Int} {yR:Bool} (h:AQ  n low high=some yR):Pure P G 91 [.sc (.int .i64 n),.sc (.int .i64 low),.sc (.int .i64 high)] (.sc (.bool yR)):=by
 unfold AQ at h
 refine BK Hd.mixed Hd.Ac (AJ Tryz.func91 b91 ?_) (Bo rfl (Bo rfl (Bo rfl rfl))) rfl
 revert h
 refine Ae (fun hb1=>?_) fun hb1=>?_
 refine Ae (fun hb2=>?_) fun hb2=>?_
 rintro ⟨⟩
 exact rS (Aa 300 [pb hb1,pb hb2]) (by kernel_rfl)
 rintro ⟨⟩
 exact rS (Aa 300 [pb hb1,pb hb2]) (by kernel_rfl)
 rintro ⟨⟩
 exact rS (Aa 300 [pb hb1]) (by kernel_rfl)
noncomputable def vS:Code:=A4 Tryz.f117
theorem wB:Tryz.f117.body=some vS:=by kernel_rfl
noncomputable def DX  (c:Int):Option Bool:=cond (KT 65 c) (cond (KT c 90) (some true) (some false)) (some false)
theorem Fk   {c:Int} {yR:Bool} (h:DX  c=some yR):Pure P G 117 [.sc (.int .u8 c)] (.sc (.bool yR)):=by
 unfold DX at h
 refine BK Hd.mixed Hd.Ac (AJ Tryz.func117 wB ?_) (Bo rfl rfl) rfl
 revert h
 refine Ae (fun hb1=>?_) fun hb1=>?_
 refine Ae (fun hb2=>?_) fun hb2=>?_
 rintro ⟨⟩
 exact rS (Aa 300 [pb hb1,pb hb2]) (by kernel_rfl)
 rintro ⟨⟩
 exact rS (Aa 300 [pb hb1,pb hb2]) (by kernel_rfl)
 rintro ⟨⟩
 exact rS (Aa 300 [pb hb1]) (by kernel_rfl)
noncomputable def B92:Code:=A4 Tryz.f92
theorem b92:Tryz.f92.body=some B92:=by kernel_rfl
noncomputable def E4  (s:ByteArray):Option Bool:=cond (Bs ((s.data.toList.length:Nat):Int) 3) ((s.data.toList[0]?).bind fun c1=>(DX ((c1.toNat:Nat):Int)).bind fun y2=>cond y2 ((s.data.toList[1]?).bind fun c3=>(DX ((c3.toNat:Nat):Int)).bind fun y4=>cond y4 ((s.data.toList[2]?).bind fun c5=>(DX ((c5.toNat:Nat):Int)).bind fun y6=>some y6) (some false)) (some false)) (some false)
theorem Gr   {s:ByteArray} {yR:Bool} (h:E4  s=some yR):Pure P G 92 [.sc (.string s)] (.sc (.bool yR)):=by
 unfold E4 at h
 refine BK Hd.mixed Hd.Ac (AJ Tryz.func92 b92 ?_) (Bo rfl rfl) rfl
 revert h
 refine Ae (fun hb1=>?_) fun hb1=>?_
 refine Aj fun c1 hc1=>?_
 refine Aj fun y2 hy2=>?_
 let o1:List (PC P G):=[pb hb1,Q3 (JF hc1),Ak (Fk hy2)]
 refine Ae (fun hv=>?_) fun hv=>?_
 subst hv
 refine Aj fun c3 hc3=>?_
 refine Aj fun y4 hy4=>?_
 refine Ae (fun hv=>?_) fun hv=>?_
 subst hv
 refine Aj fun c5 hc5=>?_
 refine Aj fun y6 hy6=>?_
 intro h
 have hE:=Option.some.inj h
 subst hE
 exact rS (Aa 300 (o1++[Q3 (JF hc3),Ak (Fk hy4),Q3 (JF hc5),Ak (Fk hy6)])) (by kernel_rfl)
 subst hv
 rintro ⟨⟩
 exact rS (Aa 300 (o1++[Q3 (JF hc3),Ak (Fk hy4)])) (by kernel_rfl)
 subst hv
 rintro ⟨⟩
 exact rS (Aa 300 o1) (by kernel_rfl)
 rintro ⟨⟩
 exact rS (Aa 300 [pb hb1]) (by kernel_rfl)
noncomputable def v7:Code:=A4 Tryz.f94
theorem b94:Tryz.f94.body=some v7:=by kernel_rfl
noncomputable def IP  (s:ByteArray) (i0:Nat) (e0:ByteArray) :Option (Lp Unit Unit Bool):=cond (BJ e0.data.toList s.data.toList) (some (.rt true)) (some (.nx ()))
noncomputable def EZ  (l:(List ByteArray)) (s:ByteArray):Option Bool:=(Gy l.length (AT (fun i y x=>IP  s i y ) (fun x=>()) (l.drop 0) 0 ())).bind (GA (fun (_:Unit)=>some false) (fun v=>some v))
theorem FF   {l:(List ByteArray)} {s:ByteArray} {yR:Bool} (h:EZ  l s=some yR):Pure P G 94 [.sl .lost l.length (rows Kv l),.sc (.string s)] (.sc (.bool yR)):=by
 unfold EZ at h
 refine BK Hd.mixed Hd.Ac (AJ Tryz.func94 b94 ?_) (Bo (A8.EH l) (Bo rfl rfl)) rfl
 revert h
 refine DQ (fun Q v=>DS P Tryz.f94 0 Q (.sc (.bool v))) (fun i0 (_:Unit) (j0:List Value)=>fr 18 [(0,.sl .lost l.length (rows Kv l)),(1,.sc (.string s)),(5,.sc (.int .i64 ((i0:Nat):Int)))] [4,9,17] j0) (fun (_:Unit)=>⟨[],0,[],0⟩) (fun (_:Unit) (jx:List Value)=>fr 18 [] [4,9,17] jx) (fun (_:Unit)=>⟨[],0,[],0⟩) [.bool false] (DI [] 0 (sb v7 52) [.code (sb v7 7)] (Aa 300 []) (by kernel_rfl)) ?_ ?_ ?_ (fun v h=>by cases h;exact .outer .body)
 rintro i0 ⟨⟩ j0 hge hq
 exact B8 (Aa 300 [pb (IG hge)]) (by kernel_rfl) (hq (js 3 j0 [(1,.bool false)]))
 rintro i0 e0 ⟨⟩ j0 r he0 hi0 mi0 k
 show IP  s i0 e0 =some r→_
 unfold IP
 refine Ae (fun hb1=>?_) fun hb1=>?_
 rintro ⟨⟩
 exact AB _ _ (Aa 300 [pb (F6 hi0),CP (r5 .lost he0),pb hb1]) (by kernel_rfl) (.GX k) .sc
 rintro ⟨⟩
 exact De (Aa 300 [pb (F6 hi0),CP (r5 .lost he0),pb hb1,pi mi0]) (by kernel_rfl) (k [(jv j0 0),.bool true,.bool false])
 rintro ⟨⟩ jx_1
 intro h
 have hE:=Option.some.inj h
 subst hE
 exact AB _ _ (BX 300 []) (by kernel_rfl) .body .sc
noncomputable def wH:Code:=A4 Tryz.f118
theorem vZ:Tryz.f118.body=some wH:=by kernel_rfl
noncomputable def EF  (c:Int):Option Bool:=cond (KT 97 c) (cond (KT c 122) (some true) (some false)) (some false)
theorem Jf   {c:Int} {yR:Bool} (h:EF  c=some yR):Pure P G 118 [.sc (.int .u8 c)] (.sc (.bool yR)):=by
 unfold EF at h
 refine BK Hd.mixed Hd.Ac (AJ Tryz.func118 vZ ?_) (Bo rfl rfl) rfl
 revert h
 refine Ae (fun hb1=>?_) fun hb1=>?_
 refine Ae (fun hb2=>?_) fun hb2=>?_
 rintro ⟨⟩
 exact rS (Aa 300 [pb hb1,pb hb2]) (by kernel_rfl)
 rintro ⟨⟩
 exact rS (Aa 300 [pb hb1,pb hb2]) (by kernel_rfl)
 rintro ⟨⟩
 exact rS (Aa 300 [pb hb1]) (by kernel_rfl)
noncomputable def wN:Code:=A4 Tryz.f119
theorem v8:Tryz.f119.body=some wN:=by kernel_rfl
noncomputable def H3  :Option (List ByteArray):=some [QS,Qy,I9,WW,Qh,P8,n9,Nc,Qg,KD,KK,A3,By,Cm,WT,Qt,KE,ML,Qc,Sy,IH,V6,R7,Qa,Nj,WM,EB,NQ,Hk,JU,GH,D5,MQ]
theorem J0    {yR:(List ByteArray)} (h:H3  =some yR):Pure P G 119 [] (.sl .lost yR.length (rows Kv yR)):=by
 unfold H3 at h
 refine BK Hd.mixed Hd.Ac (AJ Tryz.func119 v8 ?_) rfl (A8.EH yR)
 revert h
 intro h
 have hE:=Option.some.inj h
 subst hE
 exact AB (v:=.sl .full 33 (.sc (.string QS)::.sc (.string Qy)::.sc (.string I9)::.sc (.string WW)::.sc (.string Qh)::.sc (.string P8)::.sc (.string n9)::.sc (.string Nc)::.sc (.string Qg)::.sc (.string KD)::.sc (.string KK)::.sc (.string A3)::.sc (.string By)::.sc (.string Cm)::.sc (.string WT)::.sc (.string Qt)::.sc (.string KE)::.sc (.string ML)::.sc (.string Qc)::.sc (.string Sy)::.sc (.string IH)::.sc (.string V6)::.sc (.string R7)::.sc (.string Qa)::.sc (.string Nj)::.sc (.string WM)::.sc (.string EB)::.sc (.string NQ)::.sc (.string Hk)::.sc (.string JU)::.sc (.string GH)::.sc (.string D5)::.sc (.string MQ)::[])) _ _ (Aa 300 []) (by kernel_rfl) .body (.wn (.d (.r (.r (.r (.r (.r (.r (.r (.r (.r (.r (.r (.r (.r (.r (.r (.r (.r (.r (.r (.r (.r (.r (.r (.r (.r (.r (.r (.r (.r (.r (.r (.r (.r .nil))))))))))))))))))))))))))))))))) (A8.eq [QS,Qy,I9,WW,Qh,P8,n9,Nc,Qg,KD,KK,A3,By,Cm,WT,Qt,KE,ML,Qc,Sy,IH,V6,R7,Qa,Nj,WM,EB,NQ,Hk,JU,GH,D5,MQ]).symm .nil) (A8.EH [QS,Qy,I9,WW,Qh,P8,n9,Nc,Qg,KD,KK,A3,By,Cm,WT,Qt,KE,ML,Qc,Sy,IH,V6,R7,Qa,Nj,WM,EB,NQ,Hk,JU,GH,D5,MQ]))
noncomputable def tZ:Code:=A4 Tryz.f120
theorem vA:Tryz.f120.body=some tZ:=by kernel_rfl
noncomputable def FL  (c:Int):Option Bool:=cond (KT 48 c) (cond (KT c 57) (some true) (some false)) (some false)
theorem MU   {c:Int} {yR:Bool} (h:FL  c=some yR):Pure P G 120 [.sc (.int .u8 c)] (.sc (.bool yR)):=by
 unfold FL at h
 refine BK Hd.mixed Hd.Ac (AJ Tryz.func120 vA ?_) (Bo rfl rfl) rfl
 revert h
 refine Ae (fun hb1=>?_) fun hb1=>?_
 refine Ae (fun hb2=>?_) fun hb2=>?_
 rintro ⟨⟩
 exact rS (Aa 300 [pb hb1,pb hb2]) (by kernel_rfl)
 rintro ⟨⟩
 exact rS (Aa 300 [pb hb1,pb hb2]) (by kernel_rfl)
 rintro ⟨⟩
 exact rS (Aa 300 [pb hb1]) (by kernel_rfl)
noncomputable def uQ:Code:=A4 Tryz.f93
theorem b93:Tryz.f93.body=some uQ:=by kernel_rfl
noncomputable def GO   (i0:Nat) (e0:UInt8) :Option (Lp Unit Unit Bool):=(EF ((e0.toNat:Nat):Int)).bind fun y5=>cond y5 (some (.nx ())) ((FL ((e0.toNat:Nat):Int)).bind fun y6=>cond y6 (some (.nx ())) (cond (Bs ((e0.toNat:Nat):Int) 95) (some (.nx ())) (some (.rt false))))
noncomputable def Fq  (s:ByteArray):Option Bool:=cond (FQ ((s.data.toList.length:Nat):Int) 1) (some false) (cond (FQ 16 ((s.data.toList.length:Nat):Int)) (some false) ((s.data.toList[0]?).bind fun c1=>(EF ((c1.toNat:Nat):Int)).bind fun y2=>cond y2 ((H3).bind fun y3=>(EZ y3 s).bind fun y4=>cond y4 (some false) ((Gy s.data.toList.length (AT (fun i y x=>GO   i y ) (fun x=>()) (s.data.toList.drop 0) 0 ())).bind (GA (fun (_:Unit)=>some true) (fun v=>some v)))) (some false)))
theorem JY   {s:ByteArray} {yR:Bool} (h:Fq  s=some yR):Pure P G 93 [.sc (.string s)] (.sc (.bool yR)):=by
 unfold Fq at h
 refine BK Hd.mixed Hd.Ac (AJ Tryz.func93 b93 ?_) (Bo rfl rfl) rfl
 revert h
 refine Ae (fun hb1=>?_) fun hb1=>?_
 rintro ⟨⟩
 exact rS (Aa 300 [pb hb1]) (by kernel_rfl)
 refine Ae (fun hb2=>?_) fun hb2=>?_
 rintro ⟨⟩
 exact rS (Aa 300 [pb hb1,pb hb2]) (by kernel_rfl)
 refine Aj fun c1 hc1=>?_
 refine Aj fun y2 hy2=>?_
 let o1:List (PC P G):=[pb hb1,pb hb2,Q3 (JF hc1),Ak (Jf hy2)]
 refine Ae (fun hv=>?_) fun hv=>?_
 subst hv
 refine Aj fun y3 hy3=>?_
 refine Aj fun y4 hy4=>?_
 refine Ae (fun hv=>?_) fun hv=>?_
 subst hv
 rintro ⟨⟩
 exact rS (Aa 300 (o1++[Ak (J0 hy3),Ak (FF hy4)])) (by kernel_rfl)
 subst hv
 refine DQ (fun Q v=>DS P Tryz.f93 0 Q (.sc (.bool v))) (fun i0 (_:Unit) (j0:List Value)=>fr 47 [(0,.sc (.string s)),(3,.sc (.int .i64 ((i0:Nat):Int)))] [2,6,7,10,11,12,15,16,17,18,21,22,26,32,33,34,38,39,40,41,45,46] j0) (fun (_:Unit)=>⟨[],0,[],0⟩) (fun (_:Unit) (jx:List Value)=>fr 47 [] [2,6,7,10,11,12,15,16,17,18,21,22,26,32,33,34,38,39,40,41,45,46] jx) (fun (_:Unit)=>⟨[],0,[],0⟩) [.bool false,.bool false,.bool false,.bool false,.bool false,.bool false,.bool true,.bool false,.bool false,.bool false,.bool false,.bool false] (DI [] 0 (sb uQ 116) [.code (sb uQ 15)] (Aa 300 (o1++[Ak (J0 hy3),Ak (FF hy4)])) (by kernel_rfl)) ?_ ?_ ?_ (fun v h=>by cases h;exact .outer .body)
 rintro i0 ⟨⟩ j0 hge hq
 exact B8 (Aa 300 [pb (IG hge)]) (by kernel_rfl) (hq (js 22 j0 [(12,.bool false)]))
 rintro i0 e0 ⟨⟩ j0 r he0 hi0 mi0 k
 show GO   i0 e0 =some r→_
 unfold GO
 refine Aj fun y5 hy5=>?_
 let o2:List (PC P G):=[pb (F6 hi0),Q3 (JF he0),Ak (Jf hy5)]
 refine Ae (fun hv=>?_) fun hv=>?_
 subst hv
 rintro ⟨⟩
 exact De (Aa 300 (o2++[pi mi0])) (by kernel_rfl) (k (js 22 j0 [(12,.bool true),(13,.bool true),(14,.bool false),(15,.bool false),(16,undef),(17,undef),(18,.bool false),(19,.bool false),(20,undef),(21,.bool false)]))
 subst hv
 refine Aj fun y6 hy6=>?_
 let o3:List (PC P G):=o2++[Q3 (JF he0),Ak (MU hy6)]
 refine Ae (fun hv=>?_) fun hv=>?_
 subst hv
 rintro ⟨⟩
 exact De (Aa 300 (o3++[pi mi0])) (by kernel_rfl) (k (js 22 j0 [(12,.bool true),(13,.bool false),(14,.bool true),(15,.bool true),(16,.bool true),(17,.bool false),(18,.bool false),(19,.bool false),(20,undef),(21,.bool false)]))
 subst hv
 refine Ae (fun hb3=>?_) fun hb3=>?_
 rintro ⟨⟩
 exact De (Aa 300 (o3++[Q3 (JF he0),pn hb3,pi mi0])) (by kernel_rfl) (k (js 22 j0 [(12,.bool true),(13,.bool false),(14,.bool true),(15,.bool true),(16,.bool false),(17,.bool true),(18,.bool true),(19,.bool true),(20,.bool false),(21,.bool false)]))
 rintro ⟨⟩
 exact AB _ _ (Aa 300 (o3++[Q3 (JF he0),pn hb3])) (by kernel_rfl) (.GX k) .sc
 rintro ⟨⟩ jx_7
 intro h
 have hE:=Option.some.inj h
 subst hE
 exact AB _ _ (BX 300 []) (by kernel_rfl) .body .sc
 subst hv
 rintro ⟨⟩
 exact rS (Aa 300 o1) (by kernel_rfl)
noncomputable def B95:Code:=A4 Tryz.f95
theorem b95:Tryz.f95.body=some B95:=by kernel_rfl
noncomputable def Ed  (n:Nd):Option Bool:=cond (Bs n.kind 11) ((DL n).bind fun y1=>cond y1 (cond (BJ n.unit.data.toList By.data.toList) ((AQ n.n 1 1000000).bind fun y2=>some y2) (some false)) (some false)) (some false)
theorem F9   {n:Nd} {yR:Bool} (h:Ed  n=some yR):Pure P G 95 [.agg (Ba n)] (.sc (.bool yR)):=by
 unfold Ed at h
 refine BK Hd.mixed Hd.Ac (AJ Tryz.func95 b95 ?_) (Bo (Am.F0 n) rfl) rfl
 revert h
 refine Ae (fun hb1=>?_) fun hb1=>?_
 refine Aj fun y1 hy1=>?_
 let o1:List (PC P G):=[pb hb1,Ak (IC hy1)]
 refine Ae (fun hv=>?_) fun hv=>?_
 subst hv
 refine Ae (fun hb2=>?_) fun hb2=>?_
 refine Aj fun y2 hy2=>?_
 intro h
 have hE:=Option.some.inj h
 subst hE
 exact rS (Aa 300 (o1++[pb hb2,Ak (Au hy2)])) (by kernel_rfl)
 rintro ⟨⟩
 exact rS (Aa 300 (o1++[pb hb2])) (by kernel_rfl)
 subst hv
 rintro ⟨⟩
 exact rS (Aa 300 o1) (by kernel_rfl)
 rintro ⟨⟩
 exact rS (Aa 300 [pb hb1]) (by kernel_rfl)
noncomputable def uZ:Code:=A4 Tryz.f97
theorem b97:Tryz.f97.body=some uZ:=by kernel_rfl
noncomputable def Gk  (f:Fn) (i0:Nat) (e0:Pc) :Option (Lp Unit Unit Bool):=(PJ e0.att f.den).bind fun z3=>cond (Bs z3 0) ((YN e0.att f.den).bind fun z4=>(AQ z4 (-999999999999) 999999999999).bind fun y5=>cond y5 ((AQ e0.slope (-1000000) 1000000).bind fun y6=>cond y6 (cond (FQ 999999999999 e0.fr) (some (.rt false)) (cond (Bs ((i0:Nat):Int) 0) (cond (Bs e0.fr 0) (some (.nx ())) (some (.rt false))) (cond (FQ 0 ((i0:Nat):Int)) ((RU f.ps (Rh ((i0:Nat):Int) 1)).bind fun x7=>cond (KT e0.fr x7.fr) (some (.rt false)) (some (.nx ()))) (some (.nx ()))))) (some (.rt false))) (some (.rt false))) (some (.rt false))
noncomputable def FG  (f:Fn):Option Bool:=(AQ f.den 1 1000000).bind fun y1=>cond y1 ((AQ ((f.ps.length:Nat):Int) 1 64).bind fun y2=>cond y2 ((Gy f.ps.length (AT (fun i y x=>Gk  f i y ) (fun x=>()) (f.ps.drop 0) 0 ())).bind (GA (fun (_:Unit)=>some true) (fun v=>some v))) (some false)) (some false)
theorem M5   {f:Fn} {yR:Bool} (h:FG  f=some yR):Pure P G 97 [.agg (W6 f)] (.sc (.bool yR)):=by
 unfold FG at h
 refine BK Hd.mixed Hd.Ac (AJ Tryz.func97 b97 ?_) (Bo (Oj.F0 f) rfl) rfl
 revert h
 refine Aj fun y1 hy1=>?_
 refine Ae (fun hv=>?_) fun hv=>?_
 subst hv
 refine Aj fun y2 hy2=>?_
 refine Ae (fun hv=>?_) fun hv=>?_
 subst hv
 refine DQ (fun Q v=>DS P Tryz.f97 0 Q (.sc (.bool v))) (fun i0 (_:Unit) (j0:List Value)=>fr 79 [(1,.ptr 0 0),(3,.sc (.int .i64 ((i0:Nat):Int)))] [2,7,8,9,13,14,15,20,33,34,40,41,42,43,46,47,48,49,52,53,54,56,57,60,61,62,63,65,66,76,77,78] j0) (fun (_:Unit)=>⟨[(0,.cells (W6 f))],1,[],0⟩) (fun (_:Unit) (jx:List Value)=>fr 79 [] [2,7,8,9,13,14,15,20,33,34,40,41,42,43,46,47,48,49,52,53,54,56,57,60,61,62,63,65,66,76,77,78] jx) (fun (_:Unit)=>⟨[(0,.cells (W6 f))],1,[],0⟩) [.bool false,.bool true,.bool false,.bool false,.bool true,.bool false,.bool false] (DI [] 0 (sb uZ 116) [.code (sb uZ 15)] (Aa 300 [Ak (Au hy1),Ak (Au hy2)]) (by kernel_rfl)) ?_ ?_ ?_ (fun v h=>by cases h;exact .outer .body)
 rintro i0 ⟨⟩ j0 hge hq
 exact B8 (Aa 300 [pb (IG hge)]) (by kernel_rfl) (hq (js 32 j0 [(7,.bool false)]))
 rintro i0 e0 ⟨⟩ j0 r he0 hi0 mi0 k
 show Gk  f i0 e0 =some r→_
 unfold Gk
 refine Aj fun z3 hz3=>?_
 let o1:List (PC P G):=[pb (F6 hi0),CP (SH .lost he0),KZ (Q8 hz3 (.tmp 29) (.tmp 31))]
 refine Ae (fun hb1=>?_) fun hb1=>?_
 refine Aj fun z4 hz4=>?_
 refine Aj fun y5 hy5=>?_
 let o2:List (PC P G):=o1++[pn hb1,KZ (cB hz4 (.tmp 36) (.tmp 38)),Ak (Au hy5)]
 refine Ae (fun hv=>?_) fun hv=>?_
 subst hv
 refine Aj fun y6 hy6=>?_
 let o3:List (PC P G):=o2++[Ak (Au hy6)]
 refine Ae (fun hv=>?_) fun hv=>?_
 subst hv
 refine Ae (fun hb2=>?_) fun hb2=>?_
 rintro ⟨⟩
 exact AB _ _ (Aa 300 (o3++[pb hb2])) (by kernel_rfl) (.GX k) .sc
 refine Ae (fun hb3=>?_) fun hb3=>?_
 refine Ae (fun hb4=>?_) fun hb4=>?_
 rintro ⟨⟩
 exact B7 Hd.Ac [] [bp (Oj.pl f)] (Aa 300 (o3++[pb hb2,pb hb3,pn hb4,pb (B:=FQ 0 ((i0:Nat):Int)) (b:=false) (gQ (by have:=Gf hb3;omega)),pi mi0])) (by kernel_rfl) (k [(jv j0 0),(jv j0 1),(jv j0 2),(jv j0 3),(jv j0 4),(jv j0 5),(jv j0 6),.bool true,.bool false,.bool false,.bool true,.bool false,.bool false,.bool false,.bool true,.bool false,.bool false,.bool false,.bool false,.bool false,.bool false,.bool true,.bool true,.bool false,.bool false,.bool false,.bool false,.bool false,.bool false,undef,.bool false,.bool false])
 rintro ⟨⟩
 exact AB _ _ (Aa 300 (o3++[pb hb2,pb hb3,pn hb4])) (by kernel_rfl) (.GX k) .sc
 refine Ae (fun hb5=>?_) fun hb5=>?_
 refine Aj fun x7 hx7=>?_
 refine Ae (fun hb6=>?_) fun hb6=>?_
 rintro ⟨⟩
 exact AB _ _ (Aa 300 (o3++[pb hb2,pb hb3,pb hb5,pk,CP (Zs .lost hx7),pb hb6])) (by kernel_rfl) (.GX k) .sc
 rintro ⟨⟩
 exact B7 Hd.Ac [] [bp (Oj.pl f)] (Aa 300 (o3++[pb hb2,pb hb3,pb hb5,pk,CP (Zs .lost hx7),pb hb6,pi mi0])) (by kernel_rfl) (k [(jv j0 0),(jv j0 1),(jv j0 2),(jv j0 3),(jv j0 4),(jv j0 5),(jv j0 6),.bool true,.bool false,.bool false,.bool true,.bool false,.bool false,.bool false,.bool true,.bool false,.bool false,.bool false,.bool false,.bool false,.bool false,.bool false,.bool false,undef,.bool false,.bool false,.bool false,.bool true,.bool true,.bool false,.bool false,.bool false])
 rintro ⟨⟩
 exact B7 Hd.Ac [] [bp (Oj.pl f)] (Aa 300 (o3++[pb hb2,pb hb3,pb hb5,pi mi0])) (by kernel_rfl) (k [(jv j0 0),(jv j0 1),(jv j0 2),(jv j0 3),(jv j0 4),(jv j0 5),(jv j0 6),.bool true,.bool false,.bool false,.bool true,.bool false,.bool false,.bool false,.bool true,.bool false,.bool false,.bool false,.bool false,.bool false,.bool false,.bool false,.bool false,undef,.bool false,.bool false,.bool false,.bool false,.bool false,undef,.bool false,.bool false])
 subst hv
 rintro ⟨⟩
 exact AB _ _ (Aa 300 o3) (by kernel_rfl) (.GX k) .sc
 subst hv
 rintro ⟨⟩
 exact AB _ _ (Aa 300 o2) (by kernel_rfl) (.GX k) .sc
 rintro ⟨⟩
 exact AB _ _ (Aa 300 (o1++[pn hb1])) (by kernel_rfl) (.GX k) .sc
 rintro ⟨⟩ jx_8
 intro h
 have hE:=Option.some.inj h
 subst hE
 exact AB _ _ (BX 300 []) (by kernel_rfl) .body .sc
 subst hv
 rintro ⟨⟩
 exact rS (Aa 300 [Ak (Au hy1),Ak (Au hy2)]) (by kernel_rfl)
 subst hv
 rintro ⟨⟩
 exact rS (Aa 300 [Ak (Au hy1)]) (by kernel_rfl)
noncomputable def B64:Code:=A4 Tryz.f64
theorem b64:Tryz.f64.body=some B64:=by kernel_rfl
noncomputable def HV (B9:Nd→Option Bool) (BF:(List Nd)→Option Bool) (n:Nd):Option Bool:=cond (Bs n.kind 11) ((DL n).bind fun y1=>cond y1 (cond (BJ n.unit.data.toList A3.data.toList) ((AQ n.n 0 1).bind fun y2=>cond y2 ((AQ n.n 0 999999999999).bind fun y3=>cond y3 ((E4 n.unit).bind fun y4=>cond y4 (some true) (some true)) (some false)) (some false)) ((AQ n.n 0 999999999999).bind fun y5=>cond y5 ((E4 n.unit).bind fun y6=>cond y6 (some true) (cond (BJ n.unit.data.toList By.data.toList) (some true) (cond (BJ n.unit.data.toList Cm.data.toList) (some true) (some false)))) (some false))) (some false)) (cond (Bs n.kind 12) ((DK n).bind fun y7=>cond y7 ((Fq n.name).bind fun y8=>some y8) (some false)) (cond (Bs n.kind 13) ((Ez n).bind fun y9=>cond y9 ((AQ n.n 1 1000000).bind fun y10=>some y10) (some false)) (cond (Bs n.kind 14) ((DK n).bind fun y11=>cond y11 ((EZ [EB,NQ,Hk,JU] n.name).bind fun y12=>some y12) (some false)) (cond (Bs n.kind 15) ((C0 n).bind fun y13=>cond y13 (cond (Bs ((n.kids.length:Nat):Int) 1) ((n.kids[0]?).bind fun x14=>(B9 x14).bind fun y15=>some y15) (some false)) (some false)) (cond (Bs n.kind 16) ((Dx n).bind fun y16=>cond y16 (cond (Bs ((n.kids.length:Nat):Int) 2) (cond (BJ n.name.data.toList Jo.data.toList) ((n.kids[1]?).bind fun x17=>(Ed x17).bind fun y18=>cond y18 ((EZ [Sy,IH,Ir,IB,On,Iz,KV,IY,Oi,Jo,R7] n.name).bind fun y19=>cond y19 ((BF n.kids).bind fun y20=>some y20) (some false)) (some false)) ((EZ [Sy,IH,Ir,IB,On,Iz,KV,IY,Oi,Jo,R7] n.name).bind fun y21=>cond y21 ((BF n.kids).bind fun y22=>some y22) (some false))) (some false)) (some false)) (cond (Bs n.kind 17) ((Dx n).bind fun y23=>cond y23 (cond (KT 2 ((n.kids.length:Nat):Int)) (cond (BJ n.name.data.toList GH.data.toList) ((BF n.kids).bind fun y24=>some y24) (cond (BJ n.name.data.toList D5.data.toList) ((BF n.kids).bind fun y25=>some y25) (some false))) (some false)) (some false)) (cond (Bs n.kind 18) ((D7 n).bind fun y26=>cond y26 (cond (Bs ((n.kids.length:Nat):Int) 1) ((n.kids[0]?).bind fun x27=>(B9 x27).bind fun y28=>cond y28 ((FG n.tab).bind fun y29=>some y29) (some false)) (some false)) (some false)) (some false))))))))
theorem NJ (B9:Nd→Option Bool) (BF:(List Nd)→Option Bool) (EC:∀ {n:Nd} {yR:Bool},B9 n=some yR→Pure P G 64 [.agg (Ba n)] (.sc (.bool yR))) (EU:∀ {l:(List Nd)} {yR:Bool},BF l=some yR→Pure P G 96 [.sl .lost l.length (A7 l)] (.sc (.bool yR))) {n:Nd} {yR:Bool} (h:HV B9 BF n=some yR):Pure P G 64 [.agg (Ba n)] (.sc (.bool yR)):=by
 unfold HV at h
 refine BK Hd.mixed Hd.Ac (AJ Tryz.func64 b64 ?_) (Bo (Am.F0 n) rfl) rfl
 revert h
 refine Ae (fun hb1=>?_) fun hb1=>?_
 refine Aj fun y1 hy1=>?_
 let o1:List (PC P G):=[pb hb1,Ak (IC hy1)]
 refine Ae (fun hv=>?_) fun hv=>?_
 subst hv
 refine Ae (fun hb2=>?_) fun hb2=>?_
 refine Aj fun y2 hy2=>?_
 let o2:List (PC P G):=o1++[pb hb2,Ak (Au hy2)]
 refine Ae (fun hv=>?_) fun hv=>?_
 subst hv
 refine Aj fun y3 hy3=>?_
 refine Ae (fun hv=>?_) fun hv=>?_
 subst hv
 refine Aj fun y4 hy4=>?_
 refine Ae (fun hv=>?_) fun hv=>?_
 subst hv
 rintro ⟨⟩
 exact rS (Aa 300 (o2++[Ak (Au hy3),Ak (Gr hy4)])) (by kernel_rfl)
 subst hv
 rintro ⟨⟩
 exact rS (Aa 300 (o2++[Ak (Au hy3),Ak (Gr hy4),pb hb2])) (by kernel_rfl)
 subst hv
 rintro ⟨⟩
 exact rS (Aa 300 (o2++[Ak (Au hy3)])) (by kernel_rfl)
 subst hv
 rintro ⟨⟩
 exact rS (Aa 300 o2) (by kernel_rfl)
 refine Aj fun y5 hy5=>?_
 let o3:List (PC P G):=o1++[pb hb2,Ak (Au hy5)]
 refine Ae (fun hv=>?_) fun hv=>?_
 subst hv
 refine Aj fun y6 hy6=>?_
 let o4:List (PC P G):=o3++[Ak (Gr hy6)]
 refine Ae (fun hv=>?_) fun hv=>?_
 subst hv
 rintro ⟨⟩
 exact rS (Aa 300 o4) (by kernel_rfl)
 subst hv
 refine Ae (fun hb3=>?_) fun hb3=>?_
 rintro ⟨⟩
 exact rS (Aa 300 (o4++[pb hb2,pb hb3])) (by kernel_rfl)
 refine Ae (fun hb4=>?_) fun hb4=>?_
 rintro ⟨⟩
 exact rS (Aa 300 (o4++[pb hb2,pb hb3,pb hb4])) (by kernel_rfl)
 rintro ⟨⟩
 exact rS (Aa 300 (o4++[pb hb2,pb hb3,pb hb4])) (by kernel_rfl)
 subst hv
 rintro ⟨⟩
 exact rS (Aa 300 o3) (by kernel_rfl)
 subst hv
 rintro ⟨⟩
 exact rS (Aa 300 o1) (by kernel_rfl)
 let o5:List (PC P G):=[pb hb1]
 refine Ae (fun hb5=>?_) fun hb5=>?_
 refine Aj fun y7 hy7=>?_
 refine Ae (fun hv=>?_) fun hv=>?_
 subst hv
 refine Aj fun y8 hy8=>?_
 intro h
 have hE:=Option.some.inj h
 subst hE
 exact rS (Aa 300 (o5++[pb hb5,Ak (Ef hy7),Ak (JY hy8)])) (by kernel_rfl)
 subst hv
 rintro ⟨⟩
 exact rS (Aa 300 (o5++[pb hb5,Ak (Ef hy7)])) (by kernel_rfl)
 let o6:List (PC P G):=o5++[pb hb5]
 refine Ae (fun hb6=>?_) fun hb6=>?_
 refine Aj fun y9 hy9=>?_
 refine Ae (fun hv=>?_) fun hv=>?_
 subst hv
 refine Aj fun y10 hy10=>?_
 intro h
 have hE:=Option.some.inj h
 subst hE
 exact rS (Aa 300 (o6++[pb hb6,Ak (Iq hy9),Ak (Au hy10)])) (by kernel_rfl)
 subst hv
 rintro ⟨⟩
 exact rS (Aa 300 (o6++[pb hb6,Ak (Iq hy9)])) (by kernel_rfl)
 let o7:List (PC P G):=o6++[pb hb6]
 refine Ae (fun hb7=>?_) fun hb7=>?_
 refine Aj fun y11 hy11=>?_
 refine Ae (fun hv=>?_) fun hv=>?_
 subst hv
 refine Aj fun y12 hy12=>?_
 intro h
 have hE:=Option.some.inj h
 subst hE
 exact rS (Aa 300 (o7++[pb hb7,Ak (Ef hy11),El (args:=[.sl .full 4 [.sc (.string EB),.sc (.string NQ),.sc (.string Hk),.sc (.string JU)],.sc (.string n.name)]) (.d (.r (.r (.r (.r .nil)))) (A8.eq [EB,NQ,Hk,JU]).symm (.r .nil)) (FF hy12)])) (by kernel_rfl)
 subst hv
 rintro ⟨⟩
 exact rS (Aa 300 (o7++[pb hb7,Ak (Ef hy11)])) (by kernel_rfl)
 let o8:List (PC P G):=o7++[pb hb7]
 refine Ae (fun hb8=>?_) fun hb8=>?_
 refine Aj fun y13 hy13=>?_
 let o9:List (PC P G):=o8++[pb hb8,Ak (FA hy13)]
 refine Ae (fun hv=>?_) fun hv=>?_
 subst hv
 refine Ae (fun hb9=>?_) fun hb9=>?_
 refine Aj fun x14 hx14=>?_
 refine Aj fun y15 hy15=>?_
 intro h
 have hE:=Option.some.inj h
 subst hE
 exact rS (Aa 300 (o9++[pb hb9,CP (Bz .lost hx14),Ak (EC hy15)])) (by kernel_rfl)
 rintro ⟨⟩
 exact rS (Aa 300 (o9++[pb hb9])) (by kernel_rfl)
 subst hv
 rintro ⟨⟩
 exact rS (Aa 300 o9) (by kernel_rfl)
 let o10:List (PC P G):=o8++[pb hb8]
 refine Ae (fun hb10=>?_) fun hb10=>?_
 refine Aj fun y16 hy16=>?_
 let o11:List (PC P G):=o10++[pb hb10,Ak (Hu hy16)]
 refine Ae (fun hv=>?_) fun hv=>?_
 subst hv
 refine Ae (fun hb11=>?_) fun hb11=>?_
 refine Ae (fun hb12=>?_) fun hb12=>?_
 refine Aj fun x17 hx17=>?_
 refine Aj fun y18 hy18=>?_
 let o12:List (PC P G):=o11++[pn hb11,pb hb12,CP (Bz .lost hx17),Ak (F9 hy18)]
 refine Ae (fun hv=>?_) fun hv=>?_
 subst hv
 refine Aj fun y19 hy19=>?_
 let o13:List (PC P G):=o12++[El (args:=[.sl .full 11 [.sc (.string Sy),.sc (.string IH),.sc (.string Ir),.sc (.string IB),.sc (.string On),.sc (.string Iz),.sc (.string KV),.sc (.string IY),.sc (.string Oi),.sc (.string Jo),.sc (.string R7)],.sc (.string n.name)]) (.d (.r (.r (.r (.r (.r (.r (.r (.r (.r (.r (.r .nil))))))))))) (A8.eq [Sy,IH,Ir,IB,On,Iz,KV,IY,Oi,Jo,R7]).symm (.r .nil)) (FF hy19)]
 refine Ae (fun hv=>?_) fun hv=>?_
 subst hv
 refine Aj fun y20 hy20=>?_
 intro h
 have hE:=Option.some.inj h
 subst hE
 exact rS (Aa 300 (o13++[Ak (EU hy20)])) (by kernel_rfl)
 subst hv
 rintro ⟨⟩
 exact rS (Aa 300 o13) (by kernel_rfl)
 subst hv
 rintro ⟨⟩
 exact rS (Aa 300 o12) (by kernel_rfl)
 refine Aj fun y21 hy21=>?_
 let o14:List (PC P G):=o11++[pn hb11,pb hb12,El (args:=[.sl .full 11 [.sc (.string Sy),.sc (.string IH),.sc (.string Ir),.sc (.string IB),.sc (.string On),.sc (.string Iz),.sc (.string KV),.sc (.string IY),.sc (.string Oi),.sc (.string Jo),.sc (.string R7)],.sc (.string n.name)]) (.d (.r (.r (.r (.r (.r (.r (.r (.r (.r (.r (.r .nil))))))))))) (A8.eq [Sy,IH,Ir,IB,On,Iz,KV,IY,Oi,Jo,R7]).symm (.r .nil)) (FF hy21)]
 refine Ae (fun hv=>?_) fun hv=>?_
 subst hv
 refine Aj fun y22 hy22=>?_
 intro h
 have hE:=Option.some.inj h
 subst hE
 exact rS (Aa 300 (o14++[Ak (EU hy22)])) (by kernel_rfl)
 subst hv
 rintro ⟨⟩
 exact rS (Aa 300 o14) (by kernel_rfl)
 rintro ⟨⟩
 exact rS (Aa 300 (o11++[pn hb11])) (by kernel_rfl)
 subst hv
 rintro ⟨⟩
 exact rS (Aa 300 o11) (by kernel_rfl)
 let o15:List (PC P G):=o10++[pb hb10]
 refine Ae (fun hb13=>?_) fun hb13=>?_
 refine Aj fun y23 hy23=>?_
 let o16:List (PC P G):=o15++[pb hb13,Ak (Hu hy23)]
 refine Ae (fun hv=>?_) fun hv=>?_
 subst hv
 refine Ae (fun hb14=>?_) fun hb14=>?_
 refine Ae (fun hb15=>?_) fun hb15=>?_
 refine Aj fun y24 hy24=>?_
 intro h
 have hE:=Option.some.inj h
 subst hE
 exact rS (Aa 300 (o16++[pb hb14,pb hb15,Ak (EU hy24)])) (by kernel_rfl)
 refine Ae (fun hb16=>?_) fun hb16=>?_
 refine Aj fun y25 hy25=>?_
 intro h
 have hE:=Option.some.inj h
 subst hE
 exact rS (Aa 300 (o16++[pb hb14,pb hb15,pb hb16,Ak (EU hy25)])) (by kernel_rfl)
 rintro ⟨⟩
 exact rS (Aa 300 (o16++[pb hb14,pb hb15,pb hb16])) (by kernel_rfl)
 rintro ⟨⟩
 exact rS (Aa 300 (o16++[pb hb14])) (by kernel_rfl)
 subst hv
 rintro ⟨⟩
 exact rS (Aa 300 o16) (by kernel_rfl)
 refine Ae (fun hb17=>?_) fun hb17=>?_
 refine Aj fun y26 hy26=>?_
 let o17:List (PC P G):=o15++[pb hb13,pb hb17,Ak (KS hy26)]
 refine Ae (fun hv=>?_) fun hv=>?_
 subst hv
 refine Ae (fun hb18=>?_) fun hb18=>?_
 refine Aj fun x27 hx27=>?_
 refine Aj fun y28 hy28=>?_
 refine Ae (fun hv=>?_) fun hv=>?_
 subst hv
 refine Aj fun y29 hy29=>?_
 intro h
 have hE:=Option.some.inj h
 subst hE
 exact rS (Aa 300 (o17++[pb hb18,CP (Bz .lost hx27),Ak (EC hy28),Ak (M5 hy29)])) (by kernel_rfl)
 subst hv
 rintro ⟨⟩
 exact rS (Aa 300 (o17++[pb hb18,CP (Bz .lost hx27),Ak (EC hy28)])) (by kernel_rfl)
 rintro ⟨⟩
 exact rS (Aa 300 (o17++[pb hb18])) (by kernel_rfl)
 subst hv
 rintro ⟨⟩
 exact rS (Aa 300 o17) (by kernel_rfl)
 rintro ⟨⟩
 exact rS (Aa 300 (o15++[pb hb13,pb hb17])) (by kernel_rfl)
noncomputable def wI:Code:=A4 Tryz.f96
theorem b96:Tryz.f96.body=some wI:=by kernel_rfl
noncomputable def Gx (B9:Nd→Option Bool) (BF:(List Nd)→Option Bool)  (i0:Nat) (e0:Nd) :Option (Lp Unit Unit Bool):=(B9 e0).bind fun y1=>cond y1 (some (.nx ())) (some (.rt false))
noncomputable def GP (B9:Nd→Option Bool) (BF:(List Nd)→Option Bool) (l:(List Nd)):Option Bool:=(Gy l.length (AT (fun i y x=>Gx B9 BF  i y ) (fun x=>()) (l.drop 0) 0 ())).bind (GA (fun (_:Unit)=>some true) (fun v=>some v))
theorem MN (B9:Nd→Option Bool) (BF:(List Nd)→Option Bool) (EC:∀ {n:Nd} {yR:Bool},B9 n=some yR→Pure P G 64 [.agg (Ba n)] (.sc (.bool yR))) (EU:∀ {l:(List Nd)} {yR:Bool},BF l=some yR→Pure P G 96 [.sl .lost l.length (A7 l)] (.sc (.bool yR))) {l:(List Nd)} {yR:Bool} (h:GP B9 BF l=some yR):Pure P G 96 [.sl .lost l.length (A7 l)] (.sc (.bool yR)):=by
 unfold GP at h
 refine BK Hd.mixed Hd.Ac (AJ Tryz.func96 b96 ?_) (Bo (Am.EH l) rfl) rfl
 revert h
 refine DQ (fun Q v=>DS P Tryz.f96 0 Q (.sc (.bool v))) (fun i0 (_:Unit) (j0:List Value)=>fr 16 [(0,.sl .lost l.length (A7 l)),(3,.sc (.int .i64 ((i0:Nat):Int)))] [2,7,14,15] j0) (fun (_:Unit)=>⟨[],0,[],0⟩) (fun (_:Unit) (jx:List Value)=>fr 16 [] [2,7,14,15] jx) (fun (_:Unit)=>⟨[],0,[],0⟩) [.bool false] (DI [] 0 (sb wI 52) [.code (sb wI 7)] (Aa 300 []) (by kernel_rfl)) ?_ ?_ ?_ (fun v h=>by cases h;exact .outer .body)
 rintro i0 ⟨⟩ j0 hge hq
 exact B8 (Aa 300 [pb (IG hge)]) (by kernel_rfl) (hq (js 4 j0 [(1,.bool false)]))
 rintro i0 e0 ⟨⟩ j0 r he0 hi0 mi0 k
 show Gx B9 BF  i0 e0 =some r→_
 unfold Gx
 refine Aj fun y1 hy1=>?_
 refine Ae (fun hv=>?_) fun hv=>?_
 subst hv
 rintro ⟨⟩
 exact De (Aa 300 [pb (F6 hi0),CP (Bz .lost he0),Ak (EC hy1),pi mi0]) (by kernel_rfl) (k [(jv j0 0),.bool true,.bool true,.bool false])
 subst hv
 rintro ⟨⟩
 exact AB _ _ (Aa 300 [pb (F6 hi0),CP (Bz .lost he0),Ak (EC hy1)]) (by kernel_rfl) (.GX k) .sc
 rintro ⟨⟩ jx_2
 intro h
 have hE:=Option.some.inj h
 subst hE
 exact AB _ _ (BX 300 []) (by kernel_rfl) .body .sc
mutual
noncomputable def Cr:Nat→Nd→Option Bool
 | 0,_=>none
 | qn+1,n=>HV (Cr qn) (C3 qn) n
noncomputable def C3:Nat→(List Nd)→Option Bool
 | 0,_=>none
 | qn+1,l=>GP (Cr qn) (C3 qn) l
end
theorem O3:∀ qn:Nat,(∀ {n:Nd} {yR:Bool},Cr qn n=some yR→Pure P G 64 [.agg (Ba n)] (.sc (.bool yR)))∧(∀ {l:(List Nd)} {yR:Bool},C3 qn l=some yR→Pure P G 96 [.sl .lost l.length (A7 l)] (.sc (.bool yR))):=by
 intro qn
 induction qn with
 | zero=>exact ⟨(fun h=>by simp only [Cr] at h;cases h),(fun h=>by simp only [C3] at h;cases h)⟩
 | succ qn ih=>exact ⟨(fun h=>NJ (Cr qn) (C3 qn) ih.1 ih.2 (by rw [Cr] at h;exact h)),(fun h=>MN (Cr qn) (C3 qn) ih.1 ih.2 (by rw [C3] at h;exact h))⟩
noncomputable def Fe (n:Nd):Option Bool:=W4 (fun qn=>Cr qn n)
theorem IW {n:Nd} {yR:Bool} (h:Fe n=some yR):Pure P G 64 [.agg (Ba n)] (.sc (.bool yR)):=by
 obtain ⟨qn,h⟩:=Uf h
 exact (O3 qn).1 h
noncomputable def B98:Code:=A4 Tryz.f98
theorem z8:Tryz.f98.body=some B98:=by kernel_rfl
noncomputable def Dt  (n:Nd):Option Bool:=cond (Bs n.kind 5) ((Eb n).bind fun y1=>cond y1 ((AQ n.n 0 1000000).bind fun y2=>cond y2 ((AQ n.fr 0 36524).bind fun y3=>cond y3 ((AQ n.to (BM n.fr 1) 36525).bind fun y4=>cond y4 ((AQ n.known 0 36524).bind fun y5=>some y5) (some false)) (some false)) (some false)) (some false)) (some false)
theorem CQ   {n:Nd} {yR:Bool} (h:Dt  n=some yR):Pure P G 98 [.agg (Ba n)] (.sc (.bool yR)):=by
 unfold Dt at h
 refine BK Hd.mixed Hd.Ac (AJ Tryz.func98 z8 ?_) (Bo (Am.F0 n) rfl) rfl
 revert h
 refine Ae (fun hb1=>?_) fun hb1=>?_
 refine Aj fun y1 hy1=>?_
 let o1:List (PC P G):=[pb hb1,Ak (KW hy1)]
 refine Ae (fun hv=>?_) fun hv=>?_
 subst hv
 refine Aj fun y2 hy2=>?_
 let o2:List (PC P G):=o1++[Ak (Au hy2)]
 refine Ae (fun hv=>?_) fun hv=>?_
 subst hv
 refine Aj fun y3 hy3=>?_
 refine Ae (fun hv=>?_) fun hv=>?_
 subst hv
 refine Aj fun y4 hy4=>?_
 refine Ae (fun hv=>?_) fun hv=>?_
 subst hv
 refine Aj fun y5 hy5=>?_
 intro h
 have hE:=Option.some.inj h
 subst hE
 exact rS (Aa 300 (o2++[Ak (Au hy3),pk,Ak (Au hy4),Ak (Au hy5)])) (by kernel_rfl)
 subst hv
 rintro ⟨⟩
 exact rS (Aa 300 (o2++[Ak (Au hy3),pk,Ak (Au hy4)])) (by kernel_rfl)
 subst hv
 rintro ⟨⟩
 exact rS (Aa 300 (o2++[Ak (Au hy3)])) (by kernel_rfl)
 subst hv
 rintro ⟨⟩
 exact rS (Aa 300 o2) (by kernel_rfl)
 subst hv
 rintro ⟨⟩
 exact rS (Aa 300 o1) (by kernel_rfl)
 rintro ⟨⟩
 exact rS (Aa 300 [pb hb1]) (by kernel_rfl)
noncomputable def kI:Code:=A4 Tryz.f121
theorem uK:Tryz.f121.body=some kI:=by kernel_rfl
noncomputable def Fi   (i0:Nat) (e0:Nd) :Option (Lp Unit Unit Bool):=(Ed e0).bind fun y1=>cond y1 (some (.nx ())) (some (.rt false))
noncomputable def EA  (l:(List Nd)):Option Bool:=(Gy l.length (AT (fun i y x=>Fi   i y ) (fun x=>()) (l.drop 0) 0 ())).bind (GA (fun (_:Unit)=>cond (FQ 0 ((l.length:Nat):Int)) (some true) (some false)) (fun v=>some v))
theorem Ld   {l:(List Nd)} {yR:Bool} (h:EA  l=some yR):Pure P G 121 [.sl .lost l.length (A7 l)] (.sc (.bool yR)):=by
 unfold EA at h
 refine BK Hd.mixed Hd.Ac (AJ Tryz.func121 uK ?_) (Bo (Am.EH l) rfl) rfl
 revert h
 refine DQ (fun Q v=>DS P Tryz.f121 0 Q (.sc (.bool v))) (fun i0 (_:Unit) (j0:List Value)=>fr 19 [(0,.sl .lost l.length (A7 l)),(3,.sc (.int .i64 ((i0:Nat):Int)))] [2,7,14,15,18] j0) (fun (_:Unit)=>⟨[],0,[],0⟩) (fun (_:Unit) (jx:List Value)=>fr 19 [(0,.sl .lost l.length (A7 l))] [2,7,14,15,18] jx) (fun (_:Unit)=>⟨[],0,[],0⟩) [.bool false] (DI [] 0 (sb kI 52) [.code (sb kI 7)] (Aa 300 []) (by kernel_rfl)) ?_ ?_ ?_ (fun v h=>by cases h;exact .outer .body)
 rintro i0 ⟨⟩ j0 hge hq
 exact B8 (Aa 300 [pb (IG hge)]) (by kernel_rfl) (hq (js 5 j0 [(1,.bool false)]))
 rintro i0 e0 ⟨⟩ j0 r he0 hi0 mi0 k
 show Fi   i0 e0 =some r→_
 unfold Fi
 refine Aj fun y1 hy1=>?_
 refine Ae (fun hv=>?_) fun hv=>?_
 subst hv
 rintro ⟨⟩
 exact De (Aa 300 [pb (F6 hi0),CP (Bz .lost he0),Ak (F9 hy1),pi mi0]) (by kernel_rfl) (k [(jv j0 0),.bool true,.bool true,.bool false,(jv j0 4)])
 subst hv
 rintro ⟨⟩
 exact AB _ _ (Aa 300 [pb (F6 hi0),CP (Bz .lost he0),Ak (F9 hy1)]) (by kernel_rfl) (.GX k) .sc
 rintro ⟨⟩ jx_2
 refine Ae (fun hb1=>?_) fun hb1=>?_
 intro h
 have hE:=Option.some.inj h
 subst hE
 exact AB _ _ (BX 300 [pb hb1]) (by kernel_rfl) .body .sc
 intro h
 have hE:=Option.some.inj h
 subst hE
 exact AB _ _ (BX 300 [pb hb1]) (by kernel_rfl) .body .sc
noncomputable def uD:Code:=A4 Tryz.f99
theorem b99:Tryz.f99.body=some uD:=by kernel_rfl
noncomputable def Cb   (i0:Nat) (e0:Nd) (unless3:Int) (amount4:Int):Option (Lp (Int×Int) (Int×Int) Bool):=(C0 e0).bind fun y1=>cond y1 (cond (Bs e0.kind 6) (cond (Bs ((e0.kids.length:Nat):Int) 1) ((e0.kids[0]?).bind fun x2=>(Fe x2).bind fun y3=>cond y3 (some (.nx (unless3,amount4))) (some (.rt false))) (some (.rt false))) (cond (Bs e0.kind 8) (cond (Bs ((e0.kids.length:Nat):Int) 1) ((e0.kids[0]?).bind fun x4=>(Fe x4).bind fun y5=>cond y5 (some (.nx (unless3,(BM amount4 1)))) (some (.rt false))) (some (.rt false))) (cond (Bs e0.kind 7) ((EA e0.kids).bind fun y6=>cond y6 (some (.nx ((BM unless3 1),amount4))) (some (.rt false))) (some (.rt false))))) (some (.rt false))
noncomputable def Cs  (l:(List Nd)):Option Bool:=(Gy l.length (AT (fun i y x=>Cb   i y x.1 x.2) (fun x=>(x.1,x.2)) (l.drop 0) 0 (0,0))).bind (GA (fun ((unless3_7,amount4_7):(Int×Int))=>cond (KT unless3_7 1) (cond (Bs amount4_7 1) (some true) (some false)) (some false)) (fun v=>some v))
theorem Es   {l:(List Nd)} {yR:Bool} (h:Cs  l=some yR):Pure P G 99 [.sl .lost l.length (A7 l)] (.sc (.bool yR)):=by
 unfold Cs at h
 refine BK Hd.mixed Hd.Ac (AJ Tryz.func99 b99 ?_) (Bo (Am.EH l) rfl) rfl
 revert h
 refine DQ (fun Q v=>DS P Tryz.f99 0 Q (.sc (.bool v))) (fun i0 ((unless3,amount4):(Int×Int)) (j0:List Value)=>fr 69 [(0,.sl .lost l.length (A7 l)),(3,.sc (.int .i64 unless3)),(4,.sc (.int .i64 amount4)),(5,.sc (.int .i64 ((i0:Nat):Int)))] [2,9,16,17,23,24,25,32,33,41,42,43,49,52,53,61,62,64,65,67,68] j0) (fun ((unless3,amount4):(Int×Int))=>⟨[],0,[],0⟩) (fun ((unless3,amount4):(Int×Int)) (jx:List Value)=>fr 69 [(3,.sc (.int .i64 unless3)),(4,.sc (.int .i64 amount4))] [2,9,16,17,23,24,25,32,33,41,42,43,49,52,53,61,62,64,65,67,68] jx) (fun ((unless3,amount4):(Int×Int))=>⟨[],0,[],0⟩) [.bool false] (DI [] 0 (sb uD 244) [.code (sb uD 31)] (Aa 300 []) (by kernel_rfl)) ?_ ?_ ?_ (fun v h=>by cases h;exact .outer .body)
 rintro i0 ⟨unless3,amount4⟩ j0 hge hq
 exact B8 (Aa 300 [pb (IG hge)]) (by kernel_rfl) (hq (js 21 j0 [(1,.bool false)]))
 rintro i0 e0 ⟨unless3,amount4⟩ j0 r he0 hi0 mi0 k
 show Cb   i0 e0 unless3 amount4=some r→_
 unfold Cb
 refine Aj fun y1 hy1=>?_
 let o1:List (PC P G):=[pb (F6 hi0),CP (Bz .lost he0),Ak (FA hy1)]
 refine Ae (fun hv=>?_) fun hv=>?_
 subst hv
 let o2:List (PC P G):=o1++[CP (Bz .lost he0)]
 refine Ae (fun hb1=>?_) fun hb1=>?_
 refine Ae (fun hb2=>?_) fun hb2=>?_
 refine Aj fun x2 hx2=>?_
 refine Aj fun y3 hy3=>?_
 let o3:List (PC P G):=o2++[pb hb1,CP (Bz .lost he0),pn hb2,CP (Bz .lost he0),CP (Bz .lost hx2),Ak (IW hy3)]
 refine Ae (fun hv=>?_) fun hv=>?_
 subst hv
 rintro ⟨⟩
 exact De (Aa 300 (o3++[CP (Bz .lost he0),pb (B:=Bs e0.kind 8) (b:=false) (by rw [Gf hb1];rfl),pi mi0])) (by kernel_rfl) (k (js 21 j0 [(1,.bool true),(2,.bool true),(3,.bool false),(4,.bool true),(5,.bool true),(7,.bool false),(8,.bool false),(9,.bool true),(10,.bool false),(11,.bool false),(12,.bool false)]))
 subst hv
 rintro ⟨⟩
 exact AB _ _ (Aa 300 o3) (by kernel_rfl) (.GX k) .sc
 rintro ⟨⟩
 exact AB _ _ (Aa 300 (o2++[pb hb1,CP (Bz .lost he0),pn hb2])) (by kernel_rfl) (.GX k) .sc
 refine Ae (fun hb3=>?_) fun hb3=>?_
 refine Ae (fun hb4=>?_) fun hb4=>?_
 refine Aj fun x4 hx4=>?_
 refine Aj fun y5 hy5=>?_
 let o4:List (PC P G):=o2++[pb hb1,pb hb3,CP (Bz .lost he0),pn hb4,CP (Bz .lost he0),CP (Bz .lost hx4),Ak (IW hy5)]
 refine Ae (fun hv=>?_) fun hv=>?_
 subst hv
 rintro ⟨⟩
 exact De (Aa 300 (o4++[CP (Bz .lost he0),pb hb3,pk,pi mi0])) (by kernel_rfl) (k (js 21 j0 [(1,.bool true),(2,.bool true),(3,.bool false),(4,.bool true),(5,.bool false),(6,.bool true),(7,.bool false),(8,.bool false),(9,.bool true),(10,.bool false),(11,.bool false),(12,.bool true)]))
 subst hv
 rintro ⟨⟩
 exact AB _ _ (Aa 300 o4) (by kernel_rfl) (.GX k) .sc
 rintro ⟨⟩
 exact AB _ _ (Aa 300 (o2++[pb hb1,pb hb3,CP (Bz .lost he0),pn hb4])) (by kernel_rfl) (.GX k) .sc
 refine Ae (fun hb5=>?_) fun hb5=>?_
 refine Aj fun y6 hy6=>?_
 let o5:List (PC P G):=o2++[pb hb1,pb hb3,pb hb5,pk,CP (Bz .lost he0),Ak (Ld hy6)]
 refine Ae (fun hv=>?_) fun hv=>?_
 subst hv
 rintro ⟨⟩
 exact De (Aa 300 (o5++[pi mi0])) (by kernel_rfl) (k (js 21 j0 [(1,.bool true),(2,.bool true),(3,.bool false),(4,.bool false),(5,.bool false),(6,.bool false),(13,.bool true),(14,.bool true),(15,.bool true),(16,.bool false)]))
 subst hv
 rintro ⟨⟩
 exact AB _ _ (Aa 300 o5) (by kernel_rfl) (.GX k) .sc
 rintro ⟨⟩
 exact AB _ _ (Aa 300 (o2++[pb hb1,pb hb3,pb hb5])) (by kernel_rfl) (.GX k) .sc
 subst hv
 rintro ⟨⟩
 exact AB _ _ (Aa 300 o1) (by kernel_rfl) (.GX k) .sc
 rintro ⟨unless3_7,amount4_7⟩ jx_7
 dsimp only
 refine Ae (fun hb6=>?_) fun hb6=>?_
 refine Ae (fun hb7=>?_) fun hb7=>?_
 intro h
 have hE:=Option.some.inj h
 subst hE
 exact AB _ _ (BX 300 [pb hb6,pb hb7]) (by kernel_rfl) .body .sc
 intro h
 have hE:=Option.some.inj h
 subst hE
 exact AB _ _ (BX 300 [pb hb6,pb hb7]) (by kernel_rfl) .body .sc
 intro h
 have hE:=Option.some.inj h
 subst hE
 exact AB _ _ (BX 300 [pb hb6]) (by kernel_rfl) .body .sc
noncomputable def B65:Code:=A4 Tryz.f65
theorem b65:Tryz.f65.body=some B65:=by kernel_rfl
noncomputable def Ge  (n:Nd):Option Bool:=(Fq n.name).bind fun y1=>cond y1 ((E4 n.unit).bind fun y2=>cond y2 (cond (Bs n.kind 2) ((CT n).bind fun y3=>cond y3 (some true) (some false)) (cond (Bs n.kind 3) ((CS n).bind fun y4=>cond y4 ((AQ n.n 1 4).bind fun y5=>some y5) (some false)) (cond (Bs n.kind 4) ((Cy n).bind fun y6=>cond y6 ((AQ n.n 1 1000000).bind fun y7=>cond y7 ((some (FQ 1 ((n.kids.length:Nat):Int))).bind fun q8=>cond q8 ((n.kids[0]?).bind fun x9=>(Dt x9).bind fun y10=>cond y10 ((Jz n.kids 1 ((n.kids.length:Nat):Int)).bind fun l11=>(Cs l11).bind fun y12=>some y12) (some false)) (some false)) (some false)) (some false)) (some false)))) ((some (BJ n.unit.data.toList A3.data.toList)).bind fun q13=>cond q13 (cond (Bs n.kind 2) ((CT n).bind fun y14=>cond y14 (some true) (some false)) (cond (Bs n.kind 3) ((CS n).bind fun y15=>cond y15 ((AQ n.n 1 4).bind fun y16=>some y16) (some false)) (cond (Bs n.kind 4) ((Cy n).bind fun y17=>cond y17 ((AQ n.n 1 1000000).bind fun y18=>cond y18 ((some (FQ 1 ((n.kids.length:Nat):Int))).bind fun q19=>cond q19 ((n.kids[0]?).bind fun x20=>(Dt x20).bind fun y21=>cond y21 ((Jz n.kids 1 ((n.kids.length:Nat):Int)).bind fun l22=>(Cs l22).bind fun y23=>some y23) (some false)) (some false)) (some false)) (some false)) (some false)))) ((some (BJ n.unit.data.toList By.data.toList)).bind fun q24=>cond q24 (cond (Bs n.kind 2) ((CT n).bind fun y25=>cond y25 (some true) (some false)) (cond (Bs n.kind 3) ((CS n).bind fun y26=>cond y26 ((AQ n.n 1 4).bind fun y27=>some y27) (some false)) (cond (Bs n.kind 4) ((Cy n).bind fun y28=>cond y28 ((AQ n.n 1 1000000).bind fun y29=>cond y29 ((some (FQ 1 ((n.kids.length:Nat):Int))).bind fun q30=>cond q30 ((n.kids[0]?).bind fun x31=>(Dt x31).bind fun y32=>cond y32 ((Jz n.kids 1 ((n.kids.length:Nat):Int)).bind fun l33=>(Cs l33).bind fun y34=>some y34) (some false)) (some false)) (some false)) (some false)) (some false)))) ((some (BJ n.unit.data.toList Cm.data.toList)).bind fun q35=>cond (Bs n.kind 2) ((CT n).bind fun y36=>cond y36 (some q35) (some false)) (cond (Bs n.kind 3) ((CS n).bind fun y37=>cond y37 (cond q35 ((AQ n.n 1 4).bind fun y38=>some y38) (some false)) (some false)) (cond (Bs n.kind 4) ((Cy n).bind fun y39=>cond y39 ((AQ n.n 1 1000000).bind fun y40=>cond y40 ((some (FQ 1 ((n.kids.length:Nat):Int))).bind fun q41=>cond q41 ((n.kids[0]?).bind fun x42=>(Dt x42).bind fun y43=>cond y43 ((Jz n.kids 1 ((n.kids.length:Nat):Int)).bind fun l44=>(Cs l44).bind fun y45=>some y45) (some false)) (some false)) (some false)) (some false)) (some false))))))) (some false)
theorem JZ   {n:Nd} {yR:Bool} (h:Ge  n=some yR):Pure P G 65 [.agg (Ba n)] (.sc (.bool yR)):=by
 unfold Ge at h
 refine BK Hd.mixed Hd.Ac (AJ Tryz.func65 b65 ?_) (Bo (Am.F0 n) rfl) rfl
 revert h
 refine Aj fun y1 hy1=>?_
 let o1:List (PC P G):=[Ak (JY hy1)]
 refine Ae (fun hv=>?_) fun hv=>?_
 subst hv
 refine Aj fun y2 hy2=>?_
 let o2:List (PC P G):=o1++[Ak (Gr hy2)]
 refine Ae (fun hv=>?_) fun hv=>?_
 subst hv
 refine Ae (fun hb1=>?_) fun hb1=>?_
 refine Aj fun y3 hy3=>?_
 refine Ae (fun hv=>?_) fun hv=>?_
 subst hv
 rintro ⟨⟩
 exact rS (Aa 300 (o2++[pb hb1,Ak (B1 hy3)])) (by kernel_rfl)
 subst hv
 rintro ⟨⟩
 exact rS (Aa 300 (o2++[pb hb1,Ak (B1 hy3)])) (by kernel_rfl)
 refine Ae (fun hb2=>?_) fun hb2=>?_
 refine Aj fun y4 hy4=>?_
 refine Ae (fun hv=>?_) fun hv=>?_
 subst hv
 refine Aj fun y5 hy5=>?_
 intro h
 have hE:=Option.some.inj h
 subst hE
 exact rS (Aa 300 (o2++[pb hb1,pb hb2,Ak (Cv hy4),Ak (Au hy5)])) (by kernel_rfl)
 subst hv
 rintro ⟨⟩
 exact rS (Aa 300 (o2++[pb hb1,pb hb2,Ak (Cv hy4)])) (by kernel_rfl)
 let o3:List (PC P G):=o2++[pb hb1,pb hb2]
 refine Ae (fun hb3=>?_) fun hb3=>?_
 refine Aj fun y6 hy6=>?_
 let o4:List (PC P G):=o3++[pb hb3,Ak (D4 hy6)]
 refine Ae (fun hv=>?_) fun hv=>?_
 subst hv
 refine Aj fun y7 hy7=>?_
 let o5:List (PC P G):=o4++[Ak (Au hy7)]
 refine Ae (fun hv=>?_) fun hv=>?_
 subst hv
 refine Aj fun q8 hq8=>?_
 let o6:List (PC P G):=o5++[KZ (VE hq8 (.tmp 59) (.const (.int .i64 1)))]
 refine Ae (fun hv=>?_) fun hv=>?_
 subst hv
 refine Aj fun x9 hx9=>?_
 refine Aj fun y10 hy10=>?_
 refine Ae (fun hv=>?_) fun hv=>?_
 subst hv
 refine Aj fun l11 hl11=>?_
 refine Aj fun y12 hy12=>?_
 intro h
 have hE:=Option.some.inj h
 subst hE
 exact rS (Aa 300 (o6++[CP (Bz .lost hx9),Ak (CQ hy10),Oh (Gl hl11),Ak (Es hy12)])) (by kernel_rfl)
 subst hv
 rintro ⟨⟩
 exact rS (Aa 300 (o6++[CP (Bz .lost hx9),Ak (CQ hy10)])) (by kernel_rfl)
 subst hv
 rintro ⟨⟩
 exact rS (Aa 300 o6) (by kernel_rfl)
 subst hv
 rintro ⟨⟩
 exact rS (Aa 300 o5) (by kernel_rfl)
 subst hv
 rintro ⟨⟩
 exact rS (Aa 300 o4) (by kernel_rfl)
 rintro ⟨⟩
 exact rS (Aa 300 (o3++[pb hb3])) (by kernel_rfl)
 subst hv
 refine Aj fun q13 hq13=>?_
 let o7:List (PC P G):=o2++[KZ (Zy hq13 (.tmp 13) (.const (.string A3)))]
 refine Ae (fun hv=>?_) fun hv=>?_
 subst hv
 refine Ae (fun hb4=>?_) fun hb4=>?_
 refine Aj fun y14 hy14=>?_
 refine Ae (fun hv=>?_) fun hv=>?_
 subst hv
 rintro ⟨⟩
 exact rS (Aa 300 (o7++[pb hb4,Ak (B1 hy14)])) (by kernel_rfl)
 subst hv
 rintro ⟨⟩
 exact rS (Aa 300 (o7++[pb hb4,Ak (B1 hy14)])) (by kernel_rfl)
 refine Ae (fun hb5=>?_) fun hb5=>?_
 refine Aj fun y15 hy15=>?_
 refine Ae (fun hv=>?_) fun hv=>?_
 subst hv
 refine Aj fun y16 hy16=>?_
 intro h
 have hE:=Option.some.inj h
 subst hE
 exact rS (Aa 300 (o7++[pb hb4,pb hb5,Ak (Cv hy15),Ak (Au hy16)])) (by kernel_rfl)
 subst hv
 rintro ⟨⟩
 exact rS (Aa 300 (o7++[pb hb4,pb hb5,Ak (Cv hy15)])) (by kernel_rfl)
 let o8:List (PC P G):=o7++[pb hb4,pb hb5]
 refine Ae (fun hb6=>?_) fun hb6=>?_
 refine Aj fun y17 hy17=>?_
 let o9:List (PC P G):=o8++[pb hb6,Ak (D4 hy17)]
 refine Ae (fun hv=>?_) fun hv=>?_
 subst hv
 refine Aj fun y18 hy18=>?_
 let o10:List (PC P G):=o9++[Ak (Au hy18)]
 refine Ae (fun hv=>?_) fun hv=>?_
 subst hv
 refine Aj fun q19 hq19=>?_
 let o11:List (PC P G):=o10++[KZ (VE hq19 (.tmp 59) (.const (.int .i64 1)))]
 refine Ae (fun hv=>?_) fun hv=>?_
 subst hv
 refine Aj fun x20 hx20=>?_
 refine Aj fun y21 hy21=>?_
 refine Ae (fun hv=>?_) fun hv=>?_
 subst hv
 refine Aj fun l22 hl22=>?_
 refine Aj fun y23 hy23=>?_
 intro h
 have hE:=Option.some.inj h
 subst hE
 exact rS (Aa 300 (o11++[CP (Bz .lost hx20),Ak (CQ hy21),Oh (Gl hl22),Ak (Es hy23)])) (by kernel_rfl)
 subst hv
 rintro ⟨⟩
 exact rS (Aa 300 (o11++[CP (Bz .lost hx20),Ak (CQ hy21)])) (by kernel_rfl)
 subst hv
 rintro ⟨⟩
 exact rS (Aa 300 o11) (by kernel_rfl)
 subst hv
 rintro ⟨⟩
 exact rS (Aa 300 o10) (by kernel_rfl)
 subst hv
 rintro ⟨⟩
 exact rS (Aa 300 o9) (by kernel_rfl)
 rintro ⟨⟩
 exact rS (Aa 300 (o8++[pb hb6])) (by kernel_rfl)
 subst hv
 refine Aj fun q24 hq24=>?_
 let o12:List (PC P G):=o7++[KZ (Zy hq24 (.tmp 18) (.const (.string By)))]
 refine Ae (fun hv=>?_) fun hv=>?_
 subst hv
 refine Ae (fun hb7=>?_) fun hb7=>?_
 refine Aj fun y25 hy25=>?_
 refine Ae (fun hv=>?_) fun hv=>?_
 subst hv
 rintro ⟨⟩
 exact rS (Aa 300 (o12++[pb hb7,Ak (B1 hy25)])) (by kernel_rfl)
 subst hv
 rintro ⟨⟩
 exact rS (Aa 300 (o12++[pb hb7,Ak (B1 hy25)])) (by kernel_rfl)
 refine Ae (fun hb8=>?_) fun hb8=>?_
 refine Aj fun y26 hy26=>?_
 refine Ae (fun hv=>?_) fun hv=>?_
 subst hv
 refine Aj fun y27 hy27=>?_
 intro h
 have hE:=Option.some.inj h
 subst hE
 exact rS (Aa 300 (o12++[pb hb7,pb hb8,Ak (Cv hy26),Ak (Au hy27)])) (by kernel_rfl)
 subst hv
 rintro ⟨⟩
 exact rS (Aa 300 (o12++[pb hb7,pb hb8,Ak (Cv hy26)])) (by kernel_rfl)
 let o13:List (PC P G):=o12++[pb hb7,pb hb8]
 refine Ae (fun hb9=>?_) fun hb9=>?_
 refine Aj fun y28 hy28=>?_
 let o14:List (PC P G):=o13++[pb hb9,Ak (D4 hy28)]
 refine Ae (fun hv=>?_) fun hv=>?_
 subst hv
 refine Aj fun y29 hy29=>?_
 let o15:List (PC P G):=o14++[Ak (Au hy29)]
 refine Ae (fun hv=>?_) fun hv=>?_
 subst hv
 refine Aj fun q30 hq30=>?_
 let o16:List (PC P G):=o15++[KZ (VE hq30 (.tmp 59) (.const (.int .i64 1)))]
 refine Ae (fun hv=>?_) fun hv=>?_
 subst hv
 refine Aj fun x31 hx31=>?_
 refine Aj fun y32 hy32=>?_
 refine Ae (fun hv=>?_) fun hv=>?_
 subst hv
 refine Aj fun l33 hl33=>?_
 refine Aj fun y34 hy34=>?_
 intro h
 have hE:=Option.some.inj h
 subst hE
 exact rS (Aa 300 (o16++[CP (Bz .lost hx31),Ak (CQ hy32),Oh (Gl hl33),Ak (Es hy34)])) (by kernel_rfl)
 subst hv
 rintro ⟨⟩
 exact rS (Aa 300 (o16++[CP (Bz .lost hx31),Ak (CQ hy32)])) (by kernel_rfl)
 subst hv
 rintro ⟨⟩
 exact rS (Aa 300 o16) (by kernel_rfl)
 subst hv
 rintro ⟨⟩
 exact rS (Aa 300 o15) (by kernel_rfl)
 subst hv
 rintro ⟨⟩
 exact rS (Aa 300 o14) (by kernel_rfl)
 rintro ⟨⟩
 exact rS (Aa 300 (o13++[pb hb9])) (by kernel_rfl)
 subst hv
 refine Aj fun q35 hq35=>?_
 let o17:List (PC P G):=o12++[KZ (Zy hq35 (.tmp 23) (.const (.string Cm)))]
 refine Ae (fun hb10=>?_) fun hb10=>?_
 refine Aj fun y36 hy36=>?_
 refine Ae (fun hv=>?_) fun hv=>?_
 subst hv
 intro h
 have hE:=Option.some.inj h
 subst hE
 exact rS (Aa 300 (o17++[pb hb10,Ak (B1 hy36)])) (by kernel_rfl)
 subst hv
 rintro ⟨⟩
 exact rS (Aa 300 (o17++[pb hb10,Ak (B1 hy36)])) (by kernel_rfl)
 refine Ae (fun hb11=>?_) fun hb11=>?_
 refine Aj fun y37 hy37=>?_
 let o18:List (PC P G):=o17++[pb hb10,pb hb11,Ak (Cv hy37)]
 refine Ae (fun hv=>?_) fun hv=>?_
 subst hv
 refine Ae (fun hv=>?_) fun hv=>?_
 subst hv
 refine Aj fun y38 hy38=>?_
 intro h
 have hE:=Option.some.inj h
 subst hE
 exact rS (Aa 300 (o18++[Ak (Au hy38)])) (by kernel_rfl)
 subst hv
 rintro ⟨⟩
 exact rS (Aa 300 o18) (by kernel_rfl)
 subst hv
 rintro ⟨⟩
 exact rS (Aa 300 o18) (by kernel_rfl)
 let o19:List (PC P G):=o17++[pb hb10,pb hb11]
 refine Ae (fun hb12=>?_) fun hb12=>?_
 refine Aj fun y39 hy39=>?_
 let o20:List (PC P G):=o19++[pb hb12,Ak (D4 hy39)]
 refine Ae (fun hv=>?_) fun hv=>?_
 subst hv
 refine Aj fun y40 hy40=>?_
 let o21:List (PC P G):=o20++[Ak (Au hy40)]
 refine Ae (fun hv=>?_) fun hv=>?_
 subst hv
 refine Aj fun q41 hq41=>?_
 let o22:List (PC P G):=o21++[KZ (VE hq41 (.tmp 59) (.const (.int .i64 1)))]
 refine Ae (fun hv=>?_) fun hv=>?_
 subst hv
 refine Aj fun x42 hx42=>?_
 refine Aj fun y43 hy43=>?_
 refine Ae (fun hv=>?_) fun hv=>?_
 subst hv
 refine Aj fun l44 hl44=>?_
 refine Aj fun y45 hy45=>?_
 intro h
 have hE:=Option.some.inj h
 subst hE
 exact rS (Aa 300 (o22++[CP (Bz .lost hx42),Ak (CQ hy43),Oh (Gl hl44),Ak (Es hy45)])) (by kernel_rfl)
 subst hv
 rintro ⟨⟩
 exact rS (Aa 300 (o22++[CP (Bz .lost hx42),Ak (CQ hy43)])) (by kernel_rfl)
 subst hv
 rintro ⟨⟩
 exact rS (Aa 300 o22) (by kernel_rfl)
 subst hv
 rintro ⟨⟩
 exact rS (Aa 300 o21) (by kernel_rfl)
 subst hv
 rintro ⟨⟩
 exact rS (Aa 300 o20) (by kernel_rfl)
 rintro ⟨⟩
 exact rS (Aa 300 (o19++[pb hb12])) (by kernel_rfl)
 subst hv
 rintro ⟨⟩
 exact rS (Aa 300 o1) (by kernel_rfl)
noncomputable def wL:Code:=A4 Tryz.f39
theorem b39:Tryz.f39.body=some wL:=by kernel_rfl
noncomputable def Gn   (i0:Nat) (e0:Nd) :Option (Lp Unit Unit Bool):=(Ge e0).bind fun y3=>cond y3 (some (.nx ())) (some (.rt false))
noncomputable def EG  (n:Nd):Option Bool:=(Gb n).bind fun y1=>cond y1 (cond (Bs n.kind 1) ((Gy n.kids.length (AT (fun i y x=>Gn   i y ) (fun x=>()) (n.kids.drop 0) 0 ())).bind (GA (fun (_:Unit)=>(C0 n).bind fun y5=>some y5) (fun v=>some v))) ((Fe n).bind fun y2=>some y2)) (some false)
theorem Je   {n:Nd} {yR:Bool} (h:EG  n=some yR):Pure P G 39 [.agg (Ba n)] (.sc (.bool yR)):=by
 unfold EG at h
 refine BK Hd.mixed Hd.Ac (AJ Tryz.func39 b39 ?_) (Bo (Am.F0 n) rfl) rfl
 revert h
 refine Aj fun y1 hy1=>?_
 refine Ae (fun hv=>?_) fun hv=>?_
 subst hv
 refine Ae (fun hb1=>?_) fun hb1=>?_
 refine DQ (fun Q v=>DS P Tryz.f39 0 Q (.sc (.bool v))) (fun i0 (_:Unit) (j0:List Value)=>fr 28 [(1,.ptr 0 0),(3,.sc (.int .i64 ((i0:Nat):Int)))] [2,5,6,9,11,16,24,25,27] j0) (fun (_:Unit)=>⟨[(0,.cells (Ba n))],1,[],0⟩) (fun (_:Unit) (jx:List Value)=>fr 28 [(1,.ptr 0 0)] [2,5,6,9,11,16,24,25,27] jx) (fun (_:Unit)=>⟨[(0,.cells (Ba n))],1,[],0⟩) [.bool false,.bool true,.bool false,.bool false] (DI [] 0 (sb wL 244) [.code (sb wL 31)] (Aa 300 [Ak (Hl hy1),pn hb1]) (by kernel_rfl)) ?_ ?_ ?_ (fun v h=>by cases h;exact .outer .body)
 rintro i0 ⟨⟩ j0 hge hq
 exact B8 (Aa 300 [pb (IG hge)]) (by kernel_rfl) (hq (js 9 j0 [(5,.bool false)]))
 rintro i0 e0 ⟨⟩ j0 r he0 hi0 mi0 k
 show Gn   i0 e0 =some r→_
 unfold Gn
 refine Aj fun y3 hy3=>?_
 refine Ae (fun hv=>?_) fun hv=>?_
 subst hv
 rintro ⟨⟩
 exact De (Aa 300 [pb (F6 hi0),CP (Bz .lost he0),Ak (JZ hy3),pi mi0]) (by kernel_rfl) (k (js 9 j0 [(5,.bool true),(6,.bool true),(7,.bool false)]))
 subst hv
 rintro ⟨⟩
 exact AB _ _ (Aa 300 [pb (F6 hi0),CP (Bz .lost he0),Ak (JZ hy3)]) (by kernel_rfl) (.GX k) .sc
 rintro ⟨⟩ jx_4
 refine Aj fun y5 hy5=>?_
 intro h
 have hE:=Option.some.inj h
 subst hE
 exact AB _ _ (BX 300 [Ak (FA hy5)]) (by kernel_rfl) .body .sc
 refine Aj fun y2 hy2=>?_
 intro h
 have hE:=Option.some.inj h
 subst hE
 exact rS (Aa 300 [Ak (Hl hy1),pn hb1,Ak (IW hy2)]) (by kernel_rfl)
 subst hv
 rintro ⟨⟩
 exact rS (Aa 300 [Ak (Hl hy1)]) (by kernel_rfl)
noncomputable def B19:Code:=A4 Tryz.f19
theorem b19:Tryz.f19.body=some B19:=by kernel_rfl
noncomputable def E6  (n:Nd):Option Bool:=cond (Bs n.kind 1) ((EG n).bind fun y1=>some y1) (some false)
theorem LL   {n:Nd} {yR:Bool} (h:E6  n=some yR):Pure P G 19 [.agg (Ba n)] (.sc (.bool yR)):=by
 unfold E6 at h
 refine BK Hd.mixed Hd.Ac (AJ Tryz.func19 b19 ?_) (Bo (Am.F0 n) rfl) rfl
 revert h
 refine Ae (fun hb1=>?_) fun hb1=>?_
 refine Aj fun y1 hy1=>?_
 intro h
 have hE:=Option.some.inj h
 subst hE
 exact rS (Aa 300 [pb hb1,Ak (Je hy1)]) (by kernel_rfl)
 rintro ⟨⟩
 exact rS (Aa 300 [pb hb1]) (by kernel_rfl)
noncomputable def B20:Code:=A4 Tryz.f20
theorem b20:Tryz.f20.body=some B20:=by kernel_rfl
noncomputable def DC  (n:Nd):Option Bool:=cond (Bs n.kind 1) (some false) ((EG n).bind fun y1=>some y1)
theorem J3   {n:Nd} {yR:Bool} (h:DC  n=some yR):Pure P G 20 [.agg (Ba n)] (.sc (.bool yR)):=by
 unfold DC at h
 refine BK Hd.mixed Hd.Ac (AJ Tryz.func20 b20 ?_) (Bo (Am.F0 n) rfl) rfl
 revert h
 refine Ae (fun hb1=>?_) fun hb1=>?_
 rintro ⟨⟩
 exact rS (Aa 300 [pn hb1]) (by kernel_rfl)
 refine Aj fun y1 hy1=>?_
 intro h
 have hE:=Option.some.inj h
 subst hE
 exact rS (Aa 300 [pn hb1,Ak (Je hy1)]) (by kernel_rfl)
noncomputable def LA:Code:=A4 Tryz.f21
theorem b21:Tryz.f21.body=some LA:=by kernel_rfl
noncomputable def Dm (Al:Nd→ByteArray→ByteArray→ByteArray→ByteArray→Option Nd) (from_:ByteArray) (to:ByteArray) (a:ByteArray) (b:ByteArray) (i0:Nat) (e0:Nd) (w2_9:(List Nd)):Option (Lp (List Nd) (List Nd) Nd):=(Al e0 from_ to a b).bind fun y2=>LZ (w2_9.length+1) (some (.nx (w2_9++[y2])))
noncomputable def Dk (Al:Nd→ByteArray→ByteArray→ByteArray→ByteArray→Option Nd) (from_:ByteArray) (to:ByteArray) (a:ByteArray) (b:ByteArray) (i1:Nat) (e1:Nd) (w2_9:(List Nd)):Option (Lp (List Nd) (List Nd) Nd):=(Al e1 from_ to a b).bind fun y6=>LZ (w2_9.length+1) (some (.nx (w2_9++[y6])))
noncomputable def Dl (Al:Nd→ByteArray→ByteArray→ByteArray→ByteArray→Option Nd) (from_:ByteArray) (to:ByteArray) (a:ByteArray) (b:ByteArray) (i2:Nat) (e2:Nd) (w2_9:(List Nd)):Option (Lp (List Nd) (List Nd) Nd):=(Al e2 from_ to a b).bind fun y10=>LZ (w2_9.length+1) (some (.nx (w2_9++[y10])))
noncomputable def B2 (Al:Nd→ByteArray→ByteArray→ByteArray→ByteArray→Option Nd) (from_:ByteArray) (to:ByteArray) (a:ByteArray) (b:ByteArray) (i3:Nat) (e3:Nd) (w2_9:(List Nd)):Option (Lp (List Nd) (List Nd) Nd):=(Al e3 from_ to a b).bind fun y14=>LZ (w2_9.length+1) (some (.nx (w2_9++[y14])))
noncomputable def B4 (Al:Nd→ByteArray→ByteArray→ByteArray→ByteArray→Option Nd) (from_:ByteArray) (to:ByteArray) (a:ByteArray) (b:ByteArray) (i4:Nat) (e4:Nd) (w2_9:(List Nd)):Option (Lp (List Nd) (List Nd) Nd):=(Al e4 from_ to a b).bind fun y18=>LZ (w2_9.length+1) (some (.nx (w2_9++[y18])))
noncomputable def B3 (Al:Nd→ByteArray→ByteArray→ByteArray→ByteArray→Option Nd) (from_:ByteArray) (to:ByteArray) (a:ByteArray) (b:ByteArray) (i5:Nat) (e5:Nd) (w2_9:(List Nd)):Option (Lp (List Nd) (List Nd) Nd):=(Al e5 from_ to a b).bind fun y22=>LZ (w2_9.length+1) (some (.nx (w2_9++[y22])))
noncomputable def Gt (Al:Nd→ByteArray→ByteArray→ByteArray→ByteArray→Option Nd) (n:Nd) (from_:ByteArray) (to:ByteArray) (a:ByteArray) (b:ByteArray):Option Nd:=cond (Bs n.kind 2) (cond (BJ n.name.data.toList from_.data.toList) (cond (BJ n.unit.data.toList a.data.toList) ((Gy n.kids.length (AT (fun i y x=>Dm Al from_ to a b i y x) (fun x=>x) (n.kids.drop 0) 0 [])).bind (GA (fun (w2_9_4:(List Nd))=>some (⟨n.kind,to,b,n.n,n.fr,n.to,n.known,n.tab,w2_9_4,n.att⟩:Nd)) (fun v=>some v))) (cond (BJ n.unit.data.toList b.data.toList) ((Gy n.kids.length (AT (fun i y x=>Dk Al from_ to a b i y x) (fun x=>x) (n.kids.drop 0) 0 [])).bind (GA (fun (w2_9_8:(List Nd))=>some (⟨n.kind,to,a,n.n,n.fr,n.to,n.known,n.tab,w2_9_8,n.att⟩:Nd)) (fun v=>some v))) ((Gy n.kids.length (AT (fun i y x=>Dl Al from_ to a b i y x) (fun x=>x) (n.kids.drop 0) 0 [])).bind (GA (fun (w2_9_12:(List Nd))=>some (⟨n.kind,to,n.unit,n.n,n.fr,n.to,n.known,n.tab,w2_9_12,n.att⟩:Nd)) (fun v=>some v))))) (cond (BJ n.unit.data.toList a.data.toList) ((Gy n.kids.length (AT (fun i y x=>B2 Al from_ to a b i y x) (fun x=>x) (n.kids.drop 0) 0 [])).bind (GA (fun (w2_9_16:(List Nd))=>some (⟨n.kind,n.name,b,n.n,n.fr,n.to,n.known,n.tab,w2_9_16,n.att⟩:Nd)) (fun v=>some v))) (cond (BJ n.unit.data.toList b.data.toList) ((Gy n.kids.length (AT (fun i y x=>B4 Al from_ to a b i y x) (fun x=>x) (n.kids.drop 0) 0 [])).bind (GA (fun (w2_9_20:(List Nd))=>some (⟨n.kind,n.name,a,n.n,n.fr,n.to,n.known,n.tab,w2_9_20,n.att⟩:Nd)) (fun v=>some v))) ((Gy n.kids.length (AT (fun i y x=>B3 Al from_ to a b i y x) (fun x=>x) (n.kids.drop 0) 0 [])).bind (GA (fun (w2_9_24:(List Nd))=>some (⟨n.kind,n.name,n.unit,n.n,n.fr,n.to,n.known,n.tab,w2_9_24,n.att⟩:Nd)) (fun v=>some v)))))) (cond (Bs n.kind 12) (cond (BJ n.name.data.toList from_.data.toList) (cond (BJ n.unit.data.toList a.data.toList) ((Gy n.kids.length (AT (fun i y x=>Dm Al from_ to a b i y x) (fun x=>x) (n.kids.drop 0) 0 [])).bind (GA (fun (w2_9_25:(List Nd))=>some (⟨n.kind,to,b,n.n,n.fr,n.to,n.known,n.tab,w2_9_25,n.att⟩:Nd)) (fun v=>some v))) (cond (BJ n.unit.data.toList b.data.toList) ((Gy n.kids.length (AT (fun i y x=>Dk Al from_ to a b i y x) (fun x=>x) (n.kids.drop 0) 0 [])).bind (GA (fun (w2_9_26:(List Nd))=>some (⟨n.kind,to,a,n.n,n.fr,n.to,n.known,n.tab,w2_9_26,n.att⟩:Nd)) (fun v=>some v))) ((Gy n.kids.length (AT (fun i y x=>Dl Al from_ to a b i y x) (fun x=>x) (n.kids.drop 0) 0 [])).bind (GA (fun (w2_9_27:(List Nd))=>some (⟨n.kind,to,n.unit,n.n,n.fr,n.to,n.known,n.tab,w2_9_27,n.att⟩:Nd)) (fun v=>some v))))) (cond (BJ n.unit.data.toList a.data.toList) ((Gy n.kids.length (AT (fun i y x=>B2 Al from_ to a b i y x) (fun x=>x) (n.kids.drop 0) 0 [])).bind (GA (fun (w2_9_28:(List Nd))=>some (⟨n.kind,n.name,b,n.n,n.fr,n.to,n.known,n.tab,w2_9_28,n.att⟩:Nd)) (fun v=>some v))) (cond (BJ n.unit.data.toList b.data.toList) ((Gy n.kids.length (AT (fun i y x=>B4 Al from_ to a b i y x) (fun x=>x) (n.kids.drop 0) 0 [])).bind (GA (fun (w2_9_29:(List Nd))=>some (⟨n.kind,n.name,a,n.n,n.fr,n.to,n.known,n.tab,w2_9_29,n.att⟩:Nd)) (fun v=>some v))) ((Gy n.kids.length (AT (fun i y x=>B3 Al from_ to a b i y x) (fun x=>x) (n.kids.drop 0) 0 [])).bind (GA (fun (w2_9_30:(List Nd))=>some (⟨n.kind,n.name,n.unit,n.n,n.fr,n.to,n.known,n.tab,w2_9_30,n.att⟩:Nd)) (fun v=>some v)))))) (cond (BJ n.unit.data.toList a.data.toList) ((Gy n.kids.length (AT (fun i y x=>B2 Al from_ to a b i y x) (fun x=>x) (n.kids.drop 0) 0 [])).bind (GA (fun (w2_9_31:(List Nd))=>some (⟨n.kind,n.name,b,n.n,n.fr,n.to,n.known,n.tab,w2_9_31,n.att⟩:Nd)) (fun v=>some v))) (cond (BJ n.unit.data.toList b.data.toList) ((Gy n.kids.length (AT (fun i y x=>B4 Al from_ to a b i y x) (fun x=>x) (n.kids.drop 0) 0 [])).bind (GA (fun (w2_9_32:(List Nd))=>some (⟨n.kind,n.name,a,n.n,n.fr,n.to,n.known,n.tab,w2_9_32,n.att⟩:Nd)) (fun v=>some v))) ((Gy n.kids.length (AT (fun i y x=>B3 Al from_ to a b i y x) (fun x=>x) (n.kids.drop 0) 0 [])).bind (GA (fun (w2_9_33:(List Nd))=>some (⟨n.kind,n.name,n.unit,n.n,n.fr,n.to,n.known,n.tab,w2_9_33,n.att⟩:Nd)) (fun v=>some v))))))
theorem LH (Al:Nd→ByteArray→ByteArray→ByteArray→ByteArray→Option Nd) (Bb:∀ {n:Nd} {from_:ByteArray} {to:ByteArray} {a:ByteArray} {b:ByteArray} {yR:Nd},Al n from_ to a b=some yR→Pure P G 21 [.agg (Ba n),.sc (.string from_),.sc (.string to),.sc (.string a),.sc (.string b)] (.agg (Ba yR))) {n:Nd} {from_:ByteArray} {to:ByteArray} {a:ByteArray} {b:ByteArray} {yR:Nd} (h:Gt Al n from_ to a b=some yR):Pure P G 21 [.agg (Ba n),.sc (.string from_),.sc (.string to),.sc (.string a),.sc (.string b)] (.agg (Ba yR)):=by
 unfold Gt at h
 refine BK Hd.mixed Hd.Ac (AJ Tryz.func21 b21 ?_) (Bo (Am.F0 n) (Bo rfl (Bo rfl (Bo rfl (Bo rfl rfl))))) (Am.F0 yR)
 revert h
 refine Ae (fun hb1=>?_) fun hb1=>?_
 refine Ae (fun hb2=>?_) fun hb2=>?_
 refine Ae (fun hb3=>?_) fun hb3=>?_
 refine DQ (fun Q v=>DS P Tryz.f21 0 Q (.agg (Ba v))) (fun i0 (w2_9:(List Nd)) (j0:List Value)=>fr 66 [(1,.sc (.string from_)),(2,.sc (.string to)),(3,.sc (.string a)),(4,.sc (.string b)),(5,.ptr 0 0),(10,.ptr 1 0),(11,.ptr 2 0),(12,.sc (.int .i64 ((i0:Nat):Int)))] [17,18,21,22,23,27,28,33,35,38,40,47] j0) (fun (w2_9:(List Nd))=>⟨[(2,.cells [.sc (.int .i64 n.kind),.sc (.string to),.sc (.string b),.sc (.int .i64 n.n),.sc (.int .i64 n.fr),.sc (.int .i64 n.to),.sc (.int .i64 n.known),.sc (.int .i64 n.tab.den),.sl .lost n.tab.ps.length (rows FC n.tab.ps),.sl (.row 0 11) w2_9.length (A7 w2_9),.sc (.int .i64 n.att)]),(1,.cells [.sc (.int .i64 0),.sc (.string ByteArray.empty),.sc (.string ByteArray.empty),.sc (.int .i64 0),.sc (.int .i64 0),.sc (.int .i64 0),.sc (.int .i64 0),.sc (.int .i64 0),.sl .full 0 [],.sl .full 0 [],.sc (.int .i64 0)]),(0,.cells (Ba n))],3,[(0,w2_9.length)],1⟩) (fun (w2_9:(List Nd)) (jx:List Value)=>fr 66 [(10,.ptr 1 0),(11,.ptr 2 0)] [17,18,21,22,23,27,28,33,35,38,40,47] jx) (fun (w2_9:(List Nd))=>⟨[(2,.cells [.sc (.int .i64 n.kind),.sc (.string to),.sc (.string b),.sc (.int .i64 n.n),.sc (.int .i64 n.fr),.sc (.int .i64 n.to),.sc (.int .i64 n.known),.sc (.int .i64 n.tab.den),.sl .lost n.tab.ps.length (rows FC n.tab.ps),.sl (.row 0 11) w2_9.length (A7 w2_9),.sc (.int .i64 n.att)]),(1,.cells [.sc (.int .i64 0),.sc (.string ByteArray.empty),.sc (.string ByteArray.empty),.sc (.int .i64 0),.sc (.int .i64 0),.sc (.int .i64 0),.sc (.int .i64 0),.sc (.int .i64 0),.sl .full 0 [],.sl .full 0 [],.sc (.int .i64 0)]),(0,.cells (Ba n))],3,[(0,w2_9.length)],1⟩) [.bool true,.bool true,undef,.bool true,.bool true,.bool true,.bool true,.bool true,.bool true] (DI [.b 2 9 11] 1 (sb LA 1012) [.code (sb LA 127)] (Aa 300 [pb hb1,pb hb2,pb hb3]) (by kernel_rfl)) ?_ ?_ ?_ (fun v h=>by cases h;exact .outer .body)
 rintro i0 w2_9 j0 hge hq
 exact B8 (Aa 300 [pb (IG hge)]) (by kernel_rfl) (hq (js 12 j0 [(11,.bool false)]))
 rintro i0 e0 w2_9 j0 r he0 hi0 mi0 k
 show Dm Al from_ to a b i0 e0 w2_9=some r→_
 unfold Dm
 refine Aj fun y2 hy2=>?_
 refine Hs fun hl3=>?_
 rintro ⟨⟩
 exact De (Aa 300 [pb (F6 hi0),Tp,CP (Bz .lost he0),Ak (Bb hy2),KX (Ip (.row 0 11) w2_9 [y2] (o:=.full) (n:=1) (ns:=(Ba y2)) (Am.wn [y2] (.r (.r (.r (.r (.r (.r (.r (.r (.r (.r (.r .nil)))))))))))) rfl rfl (by simp) (by simpa using hl3)),pi mi0]) (by kernel_rfl) (k (js 12 j0 [(11,.bool true)]))
 rintro w2_9_4 jx_4
 intro h
 have hE:=Option.some.inj h
 subst hE
 exact AB (v:=.agg [.sc (.int .i64 n.kind),.sc (.string to),.sc (.string b),.sc (.int .i64 n.n),.sc (.int .i64 n.fr),.sc (.int .i64 n.to),.sc (.int .i64 n.known),.sc (.int .i64 n.tab.den),.sl .lost n.tab.ps.length (rows FC n.tab.ps),.sl (.row 0 11) w2_9_4.length (A7 w2_9_4),.sc (.int .i64 n.att)]) _ _ (BX 300 []) (by kernel_rfl) .body (.wn (.g (.r (.r (.r (.r (.r (.r (.r (.r (.r (.s rfl (.r .nil))))))))))) .nil) (Am.F0 (⟨n.kind,to,b,n.n,n.fr,n.to,n.known,n.tab,w2_9_4,n.att⟩:Nd)))
 refine Ae (fun hb4=>?_) fun hb4=>?_
 refine DQ (fun Q v=>DS P Tryz.f21 0 Q (.agg (Ba v))) (fun i1 (w2_9:(List Nd)) (j1:List Value)=>fr 66 [(1,.sc (.string from_)),(2,.sc (.string to)),(3,.sc (.string a)),(4,.sc (.string b)),(5,.ptr 0 0),(10,.ptr 1 0),(11,.ptr 2 0),(12,.sc (.int .i64 ((i1:Nat):Int)))] [17,18,21,22,23,27,28,33,35,38,40,47] j1) (fun (w2_9:(List Nd))=>⟨[(2,.cells [.sc (.int .i64 n.kind),.sc (.string to),.sc (.string a),.sc (.int .i64 n.n),.sc (.int .i64 n.fr),.sc (.int .i64 n.to),.sc (.int .i64 n.known),.sc (.int .i64 n.tab.den),.sl .lost n.tab.ps.length (rows FC n.tab.ps),.sl (.row 0 11) w2_9.length (A7 w2_9),.sc (.int .i64 n.att)]),(1,.cells [.sc (.int .i64 0),.sc (.string ByteArray.empty),.sc (.string ByteArray.empty),.sc (.int .i64 0),.sc (.int .i64 0),.sc (.int .i64 0),.sc (.int .i64 0),.sc (.int .i64 0),.sl .full 0 [],.sl .full 0 [],.sc (.int .i64 0)]),(0,.cells (Ba n))],3,[(0,w2_9.length)],1⟩) (fun (w2_9:(List Nd)) (jx:List Value)=>fr 66 [(10,.ptr 1 0),(11,.ptr 2 0)] [17,18,21,22,23,27,28,33,35,38,40,47] jx) (fun (w2_9:(List Nd))=>⟨[(2,.cells [.sc (.int .i64 n.kind),.sc (.string to),.sc (.string a),.sc (.int .i64 n.n),.sc (.int .i64 n.fr),.sc (.int .i64 n.to),.sc (.int .i64 n.known),.sc (.int .i64 n.tab.den),.sl .lost n.tab.ps.length (rows FC n.tab.ps),.sl (.row 0 11) w2_9.length (A7 w2_9),.sc (.int .i64 n.att)]),(1,.cells [.sc (.int .i64 0),.sc (.string ByteArray.empty),.sc (.string ByteArray.empty),.sc (.int .i64 0),.sc (.int .i64 0),.sc (.int .i64 0),.sc (.int .i64 0),.sc (.int .i64 0),.sl .full 0 [],.sl .full 0 [],.sc (.int .i64 0)]),(0,.cells (Ba n))],3,[(0,w2_9.length)],1⟩) [.bool true,.bool true,undef,.bool true,.bool true,.bool true,.bool true,.bool false,.bool false,.bool true,.bool true] (DI [.b 2 9 11] 1 (sb LA 1012) [.code (sb LA 127)] (Aa 300 [pb hb1,pb hb2,pb hb3,pb hb4]) (by kernel_rfl)) ?_ ?_ ?_ (fun v h=>by cases h;exact .outer .body)
 rintro i1 w2_9 j1 hge hq
 exact B8 (Aa 300 [pb (IG hge)]) (by kernel_rfl) (hq (js 12 j1 [(11,.bool false)]))
 rintro i1 e1 w2_9 j1 r he1 hi1 mi1 k
 show Dk Al from_ to a b i1 e1 w2_9=some r→_
 unfold Dk
 refine Aj fun y6 hy6=>?_
 refine Hs fun hl7=>?_
 rintro ⟨⟩
 exact De (Aa 300 [pb (F6 hi1),Tp,CP (Bz .lost he1),Ak (Bb hy6),KX (Ip (.row 0 11) w2_9 [y6] (o:=.full) (n:=1) (ns:=(Ba y6)) (Am.wn [y6] (.r (.r (.r (.r (.r (.r (.r (.r (.r (.r (.r .nil)))))))))))) rfl rfl (by simp) (by simpa using hl7)),pi mi1]) (by kernel_rfl) (k (js 12 j1 [(11,.bool true)]))
 rintro w2_9_8 jx_8
 intro h
 have hE:=Option.some.inj h
 subst hE
 exact AB (v:=.agg [.sc (.int .i64 n.kind),.sc (.string to),.sc (.string a),.sc (.int .i64 n.n),.sc (.int .i64 n.fr),.sc (.int .i64 n.to),.sc (.int .i64 n.known),.sc (.int .i64 n.tab.den),.sl .lost n.tab.ps.length (rows FC n.tab.ps),.sl (.row 0 11) w2_9_8.length (A7 w2_9_8),.sc (.int .i64 n.att)]) _ _ (BX 300 []) (by kernel_rfl) .body (.wn (.g (.r (.r (.r (.r (.r (.r (.r (.r (.r (.s rfl (.r .nil))))))))))) .nil) (Am.F0 (⟨n.kind,to,a,n.n,n.fr,n.to,n.known,n.tab,w2_9_8,n.att⟩:Nd)))
 refine DQ (fun Q v=>DS P Tryz.f21 0 Q (.agg (Ba v))) (fun i2 (w2_9:(List Nd)) (j2:List Value)=>fr 66 [(1,.sc (.string from_)),(2,.sc (.string to)),(3,.sc (.string a)),(4,.sc (.string b)),(5,.ptr 0 0),(10,.ptr 1 0),(11,.ptr 2 0),(12,.sc (.int .i64 ((i2:Nat):Int)))] [17,18,21,22,23,27,28,33,35,38,40,47] j2) (fun (w2_9:(List Nd))=>⟨[(2,.cells [.sc (.int .i64 n.kind),.sc (.string to),.sc (.string n.unit),.sc (.int .i64 n.n),.sc (.int .i64 n.fr),.sc (.int .i64 n.to),.sc (.int .i64 n.known),.sc (.int .i64 n.tab.den),.sl .lost n.tab.ps.length (rows FC n.tab.ps),.sl (.row 0 11) w2_9.length (A7 w2_9),.sc (.int .i64 n.att)]),(1,.cells [.sc (.int .i64 0),.sc (.string ByteArray.empty),.sc (.string ByteArray.empty),.sc (.int .i64 0),.sc (.int .i64 0),.sc (.int .i64 0),.sc (.int .i64 0),.sc (.int .i64 0),.sl .full 0 [],.sl .full 0 [],.sc (.int .i64 0)]),(0,.cells (Ba n))],3,[(0,w2_9.length)],1⟩) (fun (w2_9:(List Nd)) (jx:List Value)=>fr 66 [(10,.ptr 1 0),(11,.ptr 2 0)] [17,18,21,22,23,27,28,33,35,38,40,47] jx) (fun (w2_9:(List Nd))=>⟨[(2,.cells [.sc (.int .i64 n.kind),.sc (.string to),.sc (.string n.unit),.sc (.int .i64 n.n),.sc (.int .i64 n.fr),.sc (.int .i64 n.to),.sc (.int .i64 n.known),.sc (.int .i64 n.tab.den),.sl .lost n.tab.ps.length (rows FC n.tab.ps),.sl (.row 0 11) w2_9.length (A7 w2_9),.sc (.int .i64 n.att)]),(1,.cells [.sc (.int .i64 0),.sc (.string ByteArray.empty),.sc (.string ByteArray.empty),.sc (.int .i64 0),.sc (.int .i64 0),.sc (.int .i64 0),.sc (.int .i64 0),.sc (.int .i64 0),.sl .full 0 [],.sl .full 0 [],.sc (.int .i64 0)]),(0,.cells (Ba n))],3,[(0,w2_9.length)],1⟩) [.bool true,.bool true,undef,.bool true,.bool true,.bool true,.bool true,.bool false,.bool false,.bool false,.bool false] (DI [.b 2 9 11] 1 (sb LA 1012) [.code (sb LA 127)] (Aa 300 [pb hb1,pb hb2,pb hb3,pb hb4]) (by kernel_rfl)) ?_ ?_ ?_ (fun v h=>by cases h;exact .outer .body)
 rintro i2 w2_9 j2 hge hq
 exact B8 (Aa 300 [pb (IG hge)]) (by kernel_rfl) (hq (js 12 j2 [(11,.bool false)]))
 rintro i2 e2 w2_9 j2 r he2 hi2 mi2 k
 show Dl Al from_ to a b i2 e2 w2_9=some r→_
 unfold Dl
 refine Aj fun y10 hy10=>?_
 refine Hs fun hl11=>?_
 rintro ⟨⟩
 exact De (Aa 300 [pb (F6 hi2),Tp,CP (Bz .lost he2),Ak (Bb hy10),KX (Ip (.row 0 11) w2_9 [y10] (o:=.full) (n:=1) (ns:=(Ba y10)) (Am.wn [y10] (.r (.r (.r (.r (.r (.r (.r (.r (.r (.r (.r .nil)))))))))))) rfl rfl (by simp) (by simpa using hl11)),pi mi2]) (by kernel_rfl) (k (js 12 j2 [(11,.bool true)]))
 rintro w2_9_12 jx_12
 intro h
 have hE:=Option.some.inj h
 subst hE
 exact AB (v:=.agg [.sc (.int .i64 n.kind),.sc (.string to),.sc (.string n.unit),.sc (.int .i64 n.n),.sc (.int .i64 n.fr),.sc (.int .i64 n.to),.sc (.int .i64 n.known),.sc (.int .i64 n.tab.den),.sl .lost n.tab.ps.length (rows FC n.tab.ps),.sl (.row 0 11) w2_9_12.length (A7 w2_9_12),.sc (.int .i64 n.att)]) _ _ (BX 300 []) (by kernel_rfl) .body (.wn (.g (.r (.r (.r (.r (.r (.r (.r (.r (.r (.s rfl (.r .nil))))))))))) .nil) (Am.F0 (⟨n.kind,to,n.unit,n.n,n.fr,n.to,n.known,n.tab,w2_9_12,n.att⟩:Nd)))
 refine Ae (fun hb5=>?_) fun hb5=>?_
 refine DQ (fun Q v=>DS P Tryz.f21 0 Q (.agg (Ba v))) (fun i3 (w2_9:(List Nd)) (j3:List Value)=>fr 66 [(1,.sc (.string from_)),(2,.sc (.string to)),(3,.sc (.string a)),(4,.sc (.string b)),(5,.ptr 0 0),(10,.ptr 1 0),(11,.ptr 2 0),(12,.sc (.int .i64 ((i3:Nat):Int)))] [17,18,21,22,23,27,28,33,35,38,40,47] j3) (fun (w2_9:(List Nd))=>⟨[(2,.cells [.sc (.int .i64 n.kind),.sc (.string n.name),.sc (.string b),.sc (.int .i64 n.n),.sc (.int .i64 n.fr),.sc (.int .i64 n.to),.sc (.int .i64 n.known),.sc (.int .i64 n.tab.den),.sl .lost n.tab.ps.length (rows FC n.tab.ps),.sl (.row 0 11) w2_9.length (A7 w2_9),.sc (.int .i64 n.att)]),(1,.cells [.sc (.int .i64 0),.sc (.string ByteArray.empty),.sc (.string ByteArray.empty),.sc (.int .i64 0),.sc (.int .i64 0),.sc (.int .i64 0),.sc (.int .i64 0),.sc (.int .i64 0),.sl .full 0 [],.sl .full 0 [],.sc (.int .i64 0)]),(0,.cells (Ba n))],3,[(0,w2_9.length)],1⟩) (fun (w2_9:(List Nd)) (jx:List Value)=>fr 66 [(10,.ptr 1 0),(11,.ptr 2 0)] [17,18,21,22,23,27,28,33,35,38,40,47] jx) (fun (w2_9:(List Nd))=>⟨[(2,.cells [.sc (.int .i64 n.kind),.sc (.string n.name),.sc (.string b),.sc (.int .i64 n.n),.sc (.int .i64 n.fr),.sc (.int .i64 n.to),.sc (.int .i64 n.known),.sc (.int .i64 n.tab.den),.sl .lost n.tab.ps.length (rows FC n.tab.ps),.sl (.row 0 11) w2_9.length (A7 w2_9),.sc (.int .i64 n.att)]),(1,.cells [.sc (.int .i64 0),.sc (.string ByteArray.empty),.sc (.string ByteArray.empty),.sc (.int .i64 0),.sc (.int .i64 0),.sc (.int .i64 0),.sc (.int .i64 0),.sc (.int .i64 0),.sl .full 0 [],.sl .full 0 [],.sc (.int .i64 0)]),(0,.cells (Ba n))],3,[(0,w2_9.length)],1⟩) [.bool true,.bool true,undef,.bool true,.bool true,.bool false,.bool false,.bool true,.bool true] (DI [.b 2 9 11] 1 (sb LA 1012) [.code (sb LA 127)] (Aa 300 [pb hb1,pb hb2,pb hb5]) (by kernel_rfl)) ?_ ?_ ?_ (fun v h=>by cases h;exact .outer .body)
 rintro i3 w2_9 j3 hge hq
 exact B8 (Aa 300 [pb (IG hge)]) (by kernel_rfl) (hq (js 12 j3 [(11,.bool false)]))
 rintro i3 e3 w2_9 j3 r he3 hi3 mi3 k
 show B2 Al from_ to a b i3 e3 w2_9=some r→_
 unfold B2
 refine Aj fun y14 hy14=>?_
 refine Hs fun hl15=>?_
 rintro ⟨⟩
 exact De (Aa 300 [pb (F6 hi3),Tp,CP (Bz .lost he3),Ak (Bb hy14),KX (Ip (.row 0 11) w2_9 [y14] (o:=.full) (n:=1) (ns:=(Ba y14)) (Am.wn [y14] (.r (.r (.r (.r (.r (.r (.r (.r (.r (.r (.r .nil)))))))))))) rfl rfl (by simp) (by simpa using hl15)),pi mi3]) (by kernel_rfl) (k (js 12 j3 [(11,.bool true)]))
 rintro w2_9_16 jx_16
 intro h
 have hE:=Option.some.inj h
 subst hE
 exact AB (v:=.agg [.sc (.int .i64 n.kind),.sc (.string n.name),.sc (.string b),.sc (.int .i64 n.n),.sc (.int .i64 n.fr),.sc (.int .i64 n.to),.sc (.int .i64 n.known),.sc (.int .i64 n.tab.den),.sl .lost n.tab.ps.length (rows FC n.tab.ps),.sl (.row 0 11) w2_9_16.length (A7 w2_9_16),.sc (.int .i64 n.att)]) _ _ (BX 300 []) (by kernel_rfl) .body (.wn (.g (.r (.r (.r (.r (.r (.r (.r (.r (.r (.s rfl (.r .nil))))))))))) .nil) (Am.F0 (⟨n.kind,n.name,b,n.n,n.fr,n.to,n.known,n.tab,w2_9_16,n.att⟩:Nd)))
 refine Ae (fun hb6=>?_) fun hb6=>?_
 refine DQ (fun Q v=>DS P Tryz.f21 0 Q (.agg (Ba v))) (fun i4 (w2_9:(List Nd)) (j4:List Value)=>fr 66 [(1,.sc (.string from_)),(2,.sc (.string to)),(3,.sc (.string a)),(4,.sc (.string b)),(5,.ptr 0 0),(10,.ptr 1 0),(11,.ptr 2 0),(12,.sc (.int .i64 ((i4:Nat):Int)))] [17,18,21,22,23,27,28,33,35,38,40,47] j4) (fun (w2_9:(List Nd))=>⟨[(2,.cells [.sc (.int .i64 n.kind),.sc (.string n.name),.sc (.string a),.sc (.int .i64 n.n),.sc (.int .i64 n.fr),.sc (.int .i64 n.to),.sc (.int .i64 n.known),.sc (.int .i64 n.tab.den),.sl .lost n.tab.ps.length (rows FC n.tab.ps),.sl (.row 0 11) w2_9.length (A7 w2_9),.sc (.int .i64 n.att)]),(1,.cells [.sc (.int .i64 0),.sc (.string ByteArray.empty),.sc (.string ByteArray.empty),.sc (.int .i64 0),.sc (.int .i64 0),.sc (.int .i64 0),.sc (.int .i64 0),.sc (.int .i64 0),.sl .full 0 [],.sl .full 0 [],.sc (.int .i64 0)]),(0,.cells (Ba n))],3,[(0,w2_9.length)],1⟩) (fun (w2_9:(List Nd)) (jx:List Value)=>fr 66 [(10,.ptr 1 0),(11,.ptr 2 0)] [17,18,21,22,23,27,28,33,35,38,40,47] jx) (fun (w2_9:(List Nd))=>⟨[(2,.cells [.sc (.int .i64 n.kind),.sc (.string n.name),.sc (.string a),.sc (.int .i64 n.n),.sc (.int .i64 n.fr),.sc (.int .i64 n.to),.sc (.int .i64 n.known),.sc (.int .i64 n.tab.den),.sl .lost n.tab.ps.length (rows FC n.tab.ps),.sl (.row 0 11) w2_9.length (A7 w2_9),.sc (.int .i64 n.att)]),(1,.cells [.sc (.int .i64 0),.sc (.string ByteArray.empty),.sc (.string ByteArray.empty),.sc (.int .i64 0),.sc (.int .i64 0),.sc (.int .i64 0),.sc (.int .i64 0),.sc (.int .i64 0),.sl .full 0 [],.sl .full 0 [],.sc (.int .i64 0)]),(0,.cells (Ba n))],3,[(0,w2_9.length)],1⟩) [.bool true,.bool true,undef,.bool true,.bool true,.bool false,.bool false,.bool false,.bool false,.bool true,.bool true] (DI [.b 2 9 11] 1 (sb LA 1012) [.code (sb LA 127)] (Aa 300 [pb hb1,pb hb2,pb hb5,pb hb6]) (by kernel_rfl)) ?_ ?_ ?_ (fun v h=>by cases h;exact .outer .body)
 rintro i4 w2_9 j4 hge hq
 exact B8 (Aa 300 [pb (IG hge)]) (by kernel_rfl) (hq (js 12 j4 [(11,.bool false)]))
 rintro i4 e4 w2_9 j4 r he4 hi4 mi4 k
 show B4 Al from_ to a b i4 e4 w2_9=some r→_
 unfold B4
 refine Aj fun y18 hy18=>?_
 refine Hs fun hl19=>?_
 rintro ⟨⟩
 exact De (Aa 300 [pb (F6 hi4),Tp,CP (Bz .lost he4),Ak (Bb hy18),KX (Ip (.row 0 11) w2_9 [y18] (o:=.full) (n:=1) (ns:=(Ba y18)) (Am.wn [y18] (.r (.r (.r (.r (.r (.r (.r (.r (.r (.r (.r .nil)))))))))))) rfl rfl (by simp) (by simpa using hl19)),pi mi4]) (by kernel_rfl) (k (js 12 j4 [(11,.bool true)]))
 rintro w2_9_20 jx_20
 intro h
 have hE:=Option.some.inj h
 subst hE
 exact AB (v:=.agg [.sc (.int .i64 n.kind),.sc (.string n.name),.sc (.string a),.sc (.int .i64 n.n),.sc (.int .i64 n.fr),.sc (.int .i64 n.to),.sc (.int .i64 n.known),.sc (.int .i64 n.tab.den),.sl .lost n.tab.ps.length (rows FC n.tab.ps),.sl (.row 0 11) w2_9_20.length (A7 w2_9_20),.sc (.int .i64 n.att)]) _ _ (BX 300 []) (by kernel_rfl) .body (.wn (.g (.r (.r (.r (.r (.r (.r (.r (.r (.r (.s rfl (.r .nil))))))))))) .nil) (Am.F0 (⟨n.kind,n.name,a,n.n,n.fr,n.to,n.known,n.tab,w2_9_20,n.att⟩:Nd)))
 refine DQ (fun Q v=>DS P Tryz.f21 0 Q (.agg (Ba v))) (fun i5 (w2_9:(List Nd)) (j5:List Value)=>fr 66 [(1,.sc (.string from_)),(2,.sc (.string to)),(3,.sc (.string a)),(4,.sc (.string b)),(5,.ptr 0 0),(10,.ptr 1 0),(11,.ptr 2 0),(12,.sc (.int .i64 ((i5:Nat):Int)))] [17,18,21,22,23,27,28,33,35,38,40,47] j5) (fun (w2_9:(List Nd))=>⟨[(2,.cells [.sc (.int .i64 n.kind),.sc (.string n.name),.sc (.string n.unit),.sc (.int .i64 n.n),.sc (.int .i64 n.fr),.sc (.int .i64 n.to),.sc (.int .i64 n.known),.sc (.int .i64 n.tab.den),.sl .lost n.tab.ps.length (rows FC n.tab.ps),.sl (.row 0 11) w2_9.length (A7 w2_9),.sc (.int .i64 n.att)]),(1,.cells [.sc (.int .i64 0),.sc (.string ByteArray.empty),.sc (.string ByteArray.empty),.sc (.int .i64 0),.sc (.int .i64 0),.sc (.int .i64 0),.sc (.int .i64 0),.sc (.int .i64 0),.sl .full 0 [],.sl .full 0 [],.sc (.int .i64 0)]),(0,.cells (Ba n))],3,[(0,w2_9.length)],1⟩) (fun (w2_9:(List Nd)) (jx:List Value)=>fr 66 [(10,.ptr 1 0),(11,.ptr 2 0)] [17,18,21,22,23,27,28,33,35,38,40,47] jx) (fun (w2_9:(List Nd))=>⟨[(2,.cells [.sc (.int .i64 n.kind),.sc (.string n.name),.sc (.string n.unit),.sc (.int .i64 n.n),.sc (.int .i64 n.fr),.sc (.int .i64 n.to),.sc (.int .i64 n.known),.sc (.int .i64 n.tab.den),.sl .lost n.tab.ps.length (rows FC n.tab.ps),.sl (.row 0 11) w2_9.length (A7 w2_9),.sc (.int .i64 n.att)]),(1,.cells [.sc (.int .i64 0),.sc (.string ByteArray.empty),.sc (.string ByteArray.empty),.sc (.int .i64 0),.sc (.int .i64 0),.sc (.int .i64 0),.sc (.int .i64 0),.sc (.int .i64 0),.sl .full 0 [],.sl .full 0 [],.sc (.int .i64 0)]),(0,.cells (Ba n))],3,[(0,w2_9.length)],1⟩) [.bool true,.bool true,undef,.bool true,.bool true,.bool false,.bool false,.bool false,.bool false,.bool false,.bool false] (DI [.b 2 9 11] 1 (sb LA 1012) [.code (sb LA 127)] (Aa 300 [pb hb1,pb hb2,pb hb5,pb hb6]) (by kernel_rfl)) ?_ ?_ ?_ (fun v h=>by cases h;exact .outer .body)
 rintro i5 w2_9 j5 hge hq
 exact B8 (Aa 300 [pb (IG hge)]) (by kernel_rfl) (hq (js 12 j5 [(11,.bool false)]))
 rintro i5 e5 w2_9 j5 r he5 hi5 mi5 k
 show B3 Al from_ to a b i5 e5 w2_9=some r→_
 unfold B3
 refine Aj fun y22 hy22=>?_
 refine Hs fun hl23=>?_
 rintro ⟨⟩
 exact De (Aa 300 [pb (F6 hi5),Tp,CP (Bz .lost he5),Ak (Bb hy22),KX (Ip (.row 0 11) w2_9 [y22] (o:=.full) (n:=1) (ns:=(Ba y22)) (Am.wn [y22] (.r (.r (.r (.r (.r (.r (.r (.r (.r (.r (.r .nil)))))))))))) rfl rfl (by simp) (by simpa using hl23)),pi mi5]) (by kernel_rfl) (k (js 12 j5 [(11,.bool true)]))
 rintro w2_9_24 jx_24
 intro h
 have hE:=Option.some.inj h
 subst hE
 exact AB (v:=.agg [.sc (.int .i64 n.kind),.sc (.string n.name),.sc (.string n.unit),.sc (.int .i64 n.n),.sc (.int .i64 n.fr),.sc (.int .i64 n.to),.sc (.int .i64 n.known),.sc (.int .i64 n.tab.den),.sl .lost n.tab.ps.length (rows FC n.tab.ps),.sl (.row 0 11) w2_9_24.length (A7 w2_9_24),.sc (.int .i64 n.att)]) _ _ (BX 300 []) (by kernel_rfl) .body (.wn (.g (.r (.r (.r (.r (.r (.r (.r (.r (.r (.s rfl (.r .nil))))))))))) .nil) (Am.F0 (⟨n.kind,n.name,n.unit,n.n,n.fr,n.to,n.known,n.tab,w2_9_24,n.att⟩:Nd)))
 refine Ae (fun hb7=>?_) fun hb7=>?_
 let o1:List (PC P G):=[pb hb1,pb hb7]
 refine Ae (fun hb8=>?_) fun hb8=>?_
 refine Ae (fun hb9=>?_) fun hb9=>?_
 refine DQ (fun Q v=>DS P Tryz.f21 0 Q (.agg (Ba v))) (fun i0 (w2_9:(List Nd)) (j0:List Value)=>fr 66 [(1,.sc (.string from_)),(2,.sc (.string to)),(3,.sc (.string a)),(4,.sc (.string b)),(5,.ptr 0 0),(10,.ptr 1 0),(11,.ptr 2 0),(12,.sc (.int .i64 ((i0:Nat):Int)))] [17,18,21,22,23,27,28,33,35,38,40,47] j0) (fun (w2_9:(List Nd))=>⟨[(2,.cells [.sc (.int .i64 n.kind),.sc (.string to),.sc (.string b),.sc (.int .i64 n.n),.sc (.int .i64 n.fr),.sc (.int .i64 n.to),.sc (.int .i64 n.known),.sc (.int .i64 n.tab.den),.sl .lost n.tab.ps.length (rows FC n.tab.ps),.sl (.row 0 11) w2_9.length (A7 w2_9),.sc (.int .i64 n.att)]),(1,.cells [.sc (.int .i64 0),.sc (.string ByteArray.empty),.sc (.string ByteArray.empty),.sc (.int .i64 0),.sc (.int .i64 0),.sc (.int .i64 0),.sc (.int .i64 0),.sc (.int .i64 0),.sl .full 0 [],.sl .full 0 [],.sc (.int .i64 0)]),(0,.cells (Ba n))],3,[(0,w2_9.length)],1⟩) (fun (w2_9:(List Nd)) (jx:List Value)=>fr 66 [(10,.ptr 1 0),(11,.ptr 2 0)] [17,18,21,22,23,27,28,33,35,38,40,47] jx) (fun (w2_9:(List Nd))=>⟨[(2,.cells [.sc (.int .i64 n.kind),.sc (.string to),.sc (.string b),.sc (.int .i64 n.n),.sc (.int .i64 n.fr),.sc (.int .i64 n.to),.sc (.int .i64 n.known),.sc (.int .i64 n.tab.den),.sl .lost n.tab.ps.length (rows FC n.tab.ps),.sl (.row 0 11) w2_9.length (A7 w2_9),.sc (.int .i64 n.att)]),(1,.cells [.sc (.int .i64 0),.sc (.string ByteArray.empty),.sc (.string ByteArray.empty),.sc (.int .i64 0),.sc (.int .i64 0),.sc (.int .i64 0),.sc (.int .i64 0),.sc (.int .i64 0),.sl .full 0 [],.sl .full 0 [],.sc (.int .i64 0)]),(0,.cells (Ba n))],3,[(0,w2_9.length)],1⟩) [.bool false,.bool false,.bool true,.bool true,.bool true,.bool true,.bool true,.bool true,.bool true] (DI [.b 2 9 11] 1 (sb LA 1012) [.code (sb LA 127)] (Aa 300 (o1++[pb hb8,pb hb9])) (by kernel_rfl)) ?_ ?_ ?_ (fun v h=>by cases h;exact .outer .body)
 rintro i0 w2_9 j0 hge hq
 exact B8 (Aa 300 [pb (IG hge)]) (by kernel_rfl) (hq (js 12 j0 [(11,.bool false)]))
 rintro i0 e0 w2_9 j0 r he0 hi0 mi0 k
 show Dm Al from_ to a b i0 e0 w2_9=some r→_
 unfold Dm
 refine Aj fun y2 hy2=>?_
 refine Hs fun hl3=>?_
 rintro ⟨⟩
 exact De (Aa 300 [pb (F6 hi0),Tp,CP (Bz .lost he0),Ak (Bb hy2),KX (Ip (.row 0 11) w2_9 [y2] (o:=.full) (n:=1) (ns:=(Ba y2)) (Am.wn [y2] (.r (.r (.r (.r (.r (.r (.r (.r (.r (.r (.r .nil)))))))))))) rfl rfl (by simp) (by simpa using hl3)),pi mi0]) (by kernel_rfl) (k (js 12 j0 [(11,.bool true)]))
 rintro w2_9_25 jx_25
 intro h
 have hE:=Option.some.inj h
 subst hE
 exact AB (v:=.agg [.sc (.int .i64 n.kind),.sc (.string to),.sc (.string b),.sc (.int .i64 n.n),.sc (.int .i64 n.fr),.sc (.int .i64 n.to),.sc (.int .i64 n.known),.sc (.int .i64 n.tab.den),.sl .lost n.tab.ps.length (rows FC n.tab.ps),.sl (.row 0 11) w2_9_25.length (A7 w2_9_25),.sc (.int .i64 n.att)]) _ _ (BX 300 []) (by kernel_rfl) .body (.wn (.g (.r (.r (.r (.r (.r (.r (.r (.r (.r (.s rfl (.r .nil))))))))))) .nil) (Am.F0 (⟨n.kind,to,b,n.n,n.fr,n.to,n.known,n.tab,w2_9_25,n.att⟩:Nd)))
 refine Ae (fun hb10=>?_) fun hb10=>?_
 refine DQ (fun Q v=>DS P Tryz.f21 0 Q (.agg (Ba v))) (fun i1 (w2_9:(List Nd)) (j1:List Value)=>fr 66 [(1,.sc (.string from_)),(2,.sc (.string to)),(3,.sc (.string a)),(4,.sc (.string b)),(5,.ptr 0 0),(10,.ptr 1 0),(11,.ptr 2 0),(12,.sc (.int .i64 ((i1:Nat):Int)))] [17,18,21,22,23,27,28,33,35,38,40,47] j1) (fun (w2_9:(List Nd))=>⟨[(2,.cells [.sc (.int .i64 n.kind),.sc (.string to),.sc (.string a),.sc (.int .i64 n.n),.sc (.int .i64 n.fr),.sc (.int .i64 n.to),.sc (.int .i64 n.known),.sc (.int .i64 n.tab.den),.sl .lost n.tab.ps.length (rows FC n.tab.ps),.sl (.row 0 11) w2_9.length (A7 w2_9),.sc (.int .i64 n.att)]),(1,.cells [.sc (.int .i64 0),.sc (.string ByteArray.empty),.sc (.string ByteArray.empty),.sc (.int .i64 0),.sc (.int .i64 0),.sc (.int .i64 0),.sc (.int .i64 0),.sc (.int .i64 0),.sl .full 0 [],.sl .full 0 [],.sc (.int .i64 0)]),(0,.cells (Ba n))],3,[(0,w2_9.length)],1⟩) (fun (w2_9:(List Nd)) (jx:List Value)=>fr 66 [(10,.ptr 1 0),(11,.ptr 2 0)] [17,18,21,22,23,27,28,33,35,38,40,47] jx) (fun (w2_9:(List Nd))=>⟨[(2,.cells [.sc (.int .i64 n.kind),.sc (.string to),.sc (.string a),.sc (.int .i64 n.n),.sc (.int .i64 n.fr),.sc (.int .i64 n.to),.sc (.int .i64 n.known),.sc (.int .i64 n.tab.den),.sl .lost n.tab.ps.length (rows FC n.tab.ps),.sl (.row 0 11) w2_9.length (A7 w2_9),.sc (.int .i64 n.att)]),(1,.cells [.sc (.int .i64 0),.sc (.string ByteArray.empty),.sc (.string ByteArray.empty),.sc (.int .i64 0),.sc (.int .i64 0),.sc (.int .i64 0),.sc (.int .i64 0),.sc (.int .i64 0),.sl .full 0 [],.sl .full 0 [],.sc (.int .i64 0)]),(0,.cells (Ba n))],3,[(0,w2_9.length)],1⟩) [.bool false,.bool false,.bool true,.bool true,.bool true,.bool true,.bool true,.bool false,.bool false,.bool true,.bool true] (DI [.b 2 9 11] 1 (sb LA 1012) [.code (sb LA 127)] (Aa 300 (o1++[pb hb8,pb hb9,pb hb10])) (by kernel_rfl)) ?_ ?_ ?_ (fun v h=>by cases h;exact .outer .body)
 rintro i1 w2_9 j1 hge hq
 exact B8 (Aa 300 [pb (IG hge)]) (by kernel_rfl) (hq (js 12 j1 [(11,.bool false)]))
 rintro i1 e1 w2_9 j1 r he1 hi1 mi1 k
 show Dk Al from_ to a b i1 e1 w2_9=some r→_
 unfold Dk
 refine Aj fun y6 hy6=>?_
 refine Hs fun hl7=>?_
 rintro ⟨⟩
 exact De (Aa 300 [pb (F6 hi1),Tp,CP (Bz .lost he1),Ak (Bb hy6),KX (Ip (.row 0 11) w2_9 [y6] (o:=.full) (n:=1) (ns:=(Ba y6)) (Am.wn [y6] (.r (.r (.r (.r (.r (.r (.r (.r (.r (.r (.r .nil)))))))))))) rfl rfl (by simp) (by simpa using hl7)),pi mi1]) (by kernel_rfl) (k (js 12 j1 [(11,.bool true)]))
 rintro w2_9_26 jx_26
 intro h
 have hE:=Option.some.inj h
 subst hE
 exact AB (v:=.agg [.sc (.int .i64 n.kind),.sc (.string to),.sc (.string a),.sc (.int .i64 n.n),.sc (.int .i64 n.fr),.sc (.int .i64 n.to),.sc (.int .i64 n.known),.sc (.int .i64 n.tab.den),.sl .lost n.tab.ps.length (rows FC n.tab.ps),.sl (.row 0 11) w2_9_26.length (A7 w2_9_26),.sc (.int .i64 n.att)]) _ _ (BX 300 []) (by kernel_rfl) .body (.wn (.g (.r (.r (.r (.r (.r (.r (.r (.r (.r (.s rfl (.r .nil))))))))))) .nil) (Am.F0 (⟨n.kind,to,a,n.n,n.fr,n.to,n.known,n.tab,w2_9_26,n.att⟩:Nd)))
 refine DQ (fun Q v=>DS P Tryz.f21 0 Q (.agg (Ba v))) (fun i2 (w2_9:(List Nd)) (j2:List Value)=>fr 66 [(1,.sc (.string from_)),(2,.sc (.string to)),(3,.sc (.string a)),(4,.sc (.string b)),(5,.ptr 0 0),(10,.ptr 1 0),(11,.ptr 2 0),(12,.sc (.int .i64 ((i2:Nat):Int)))] [17,18,21,22,23,27,28,33,35,38,40,47] j2) (fun (w2_9:(List Nd))=>⟨[(2,.cells [.sc (.int .i64 n.kind),.sc (.string to),.sc (.string n.unit),.sc (.int .i64 n.n),.sc (.int .i64 n.fr),.sc (.int .i64 n.to),.sc (.int .i64 n.known),.sc (.int .i64 n.tab.den),.sl .lost n.tab.ps.length (rows FC n.tab.ps),.sl (.row 0 11) w2_9.length (A7 w2_9),.sc (.int .i64 n.att)]),(1,.cells [.sc (.int .i64 0),.sc (.string ByteArray.empty),.sc (.string ByteArray.empty),.sc (.int .i64 0),.sc (.int .i64 0),.sc (.int .i64 0),.sc (.int .i64 0),.sc (.int .i64 0),.sl .full 0 [],.sl .full 0 [],.sc (.int .i64 0)]),(0,.cells (Ba n))],3,[(0,w2_9.length)],1⟩) (fun (w2_9:(List Nd)) (jx:List Value)=>fr 66 [(10,.ptr 1 0),(11,.ptr 2 0)] [17,18,21,22,23,27,28,33,35,38,40,47] jx) (fun (w2_9:(List Nd))=>⟨[(2,.cells [.sc (.int .i64 n.kind),.sc (.string to),.sc (.string n.unit),.sc (.int .i64 n.n),.sc (.int .i64 n.fr),.sc (.int .i64 n.to),.sc (.int .i64 n.known),.sc (.int .i64 n.tab.den),.sl .lost n.tab.ps.length (rows FC n.tab.ps),.sl (.row 0 11) w2_9.length (A7 w2_9),.sc (.int .i64 n.att)]),(1,.cells [.sc (.int .i64 0),.sc (.string ByteArray.empty),.sc (.string ByteArray.empty),.sc (.int .i64 0),.sc (.int .i64 0),.sc (.int .i64 0),.sc (.int .i64 0),.sc (.int .i64 0),.sl .full 0 [],.sl .full 0 [],.sc (.int .i64 0)]),(0,.cells (Ba n))],3,[(0,w2_9.length)],1⟩) [.bool false,.bool false,.bool true,.bool true,.bool true,.bool true,.bool true,.bool false,.bool false,.bool false,.bool false] (DI [.b 2 9 11] 1 (sb LA 1012) [.code (sb LA 127)] (Aa 300 (o1++[pb hb8,pb hb9,pb hb10])) (by kernel_rfl)) ?_ ?_ ?_ (fun v h=>by cases h;exact .outer .body)
 rintro i2 w2_9 j2 hge hq
 exact B8 (Aa 300 [pb (IG hge)]) (by kernel_rfl) (hq (js 12 j2 [(11,.bool false)]))
 rintro i2 e2 w2_9 j2 r he2 hi2 mi2 k
 show Dl Al from_ to a b i2 e2 w2_9=some r→_
 unfold Dl
 refine Aj fun y10 hy10=>?_
 refine Hs fun hl11=>?_
 rintro ⟨⟩
 exact De (Aa 300 [pb (F6 hi2),Tp,CP (Bz .lost he2),Ak (Bb hy10),KX (Ip (.row 0 11) w2_9 [y10] (o:=.full) (n:=1) (ns:=(Ba y10)) (Am.wn [y10] (.r (.r (.r (.r (.r (.r (.r (.r (.r (.r (.r .nil)))))))))))) rfl rfl (by simp) (by simpa using hl11)),pi mi2]) (by kernel_rfl) (k (js 12 j2 [(11,.bool true)]))
 rintro w2_9_27 jx_27
 intro h
 have hE:=Option.some.inj h
 subst hE
 exact AB (v:=.agg [.sc (.int .i64 n.kind),.sc (.string to),.sc (.string n.unit),.sc (.int .i64 n.n),.sc (.int .i64 n.fr),.sc (.int .i64 n.to),.sc (.int .i64 n.known),.sc (.int .i64 n.tab.den),.sl .lost n.tab.ps.length (rows FC n.tab.ps),.sl (.row 0 11) w2_9_27.length (A7 w2_9_27),.sc (.int .i64 n.att)]) _ _ (BX 300 []) (by kernel_rfl) .body (.wn (.g (.r (.r (.r (.r (.r (.r (.r (.r (.r (.s rfl (.r .nil))))))))))) .nil) (Am.F0 (⟨n.kind,to,n.unit,n.n,n.fr,n.to,n.known,n.tab,w2_9_27,n.att⟩:Nd)))
 refine Ae (fun hb11=>?_) fun hb11=>?_
 refine DQ (fun Q v=>DS P Tryz.f21 0 Q (.agg (Ba v))) (fun i3 (w2_9:(List Nd)) (j3:List Value)=>fr 66 [(1,.sc (.string from_)),(2,.sc (.string to)),(3,.sc (.string a)),(4,.sc (.string b)),(5,.ptr 0 0),(10,.ptr 1 0),(11,.ptr 2 0),(12,.sc (.int .i64 ((i3:Nat):Int)))] [17,18,21,22,23,27,28,33,35,38,40,47] j3) (fun (w2_9:(List Nd))=>⟨[(2,.cells [.sc (.int .i64 n.kind),.sc (.string n.name),.sc (.string b),.sc (.int .i64 n.n),.sc (.int .i64 n.fr),.sc (.int .i64 n.to),.sc (.int .i64 n.known),.sc (.int .i64 n.tab.den),.sl .lost n.tab.ps.length (rows FC n.tab.ps),.sl (.row 0 11) w2_9.length (A7 w2_9),.sc (.int .i64 n.att)]),(1,.cells [.sc (.int .i64 0),.sc (.string ByteArray.empty),.sc (.string ByteArray.empty),.sc (.int .i64 0),.sc (.int .i64 0),.sc (.int .i64 0),.sc (.int .i64 0),.sc (.int .i64 0),.sl .full 0 [],.sl .full 0 [],.sc (.int .i64 0)]),(0,.cells (Ba n))],3,[(0,w2_9.length)],1⟩) (fun (w2_9:(List Nd)) (jx:List Value)=>fr 66 [(10,.ptr 1 0),(11,.ptr 2 0)] [17,18,21,22,23,27,28,33,35,38,40,47] jx) (fun (w2_9:(List Nd))=>⟨[(2,.cells [.sc (.int .i64 n.kind),.sc (.string n.name),.sc (.string b),.sc (.int .i64 n.n),.sc (.int .i64 n.fr),.sc (.int .i64 n.to),.sc (.int .i64 n.known),.sc (.int .i64 n.tab.den),.sl .lost n.tab.ps.length (rows FC n.tab.ps),.sl (.row 0 11) w2_9.length (A7 w2_9),.sc (.int .i64 n.att)]),(1,.cells [.sc (.int .i64 0),.sc (.string ByteArray.empty),.sc (.string ByteArray.empty),.sc (.int .i64 0),.sc (.int .i64 0),.sc (.int .i64 0),.sc (.int .i64 0),.sc (.int .i64 0),.sl .full 0 [],.sl .full 0 [],.sc (.int .i64 0)]),(0,.cells (Ba n))],3,[(0,w2_9.length)],1⟩) [.bool false,.bool false,.bool true,.bool true,.bool true,.bool false,.bool false,.bool true,.bool true] (DI [.b 2 9 11] 1 (sb LA 1012) [.code (sb LA 127)] (Aa 300 (o1++[pb hb8,pb hb11])) (by kernel_rfl)) ?_ ?_ ?_ (fun v h=>by cases h;exact .outer .body)
 rintro i3 w2_9 j3 hge hq
 exact B8 (Aa 300 [pb (IG hge)]) (by kernel_rfl) (hq (js 12 j3 [(11,.bool false)]))
 rintro i3 e3 w2_9 j3 r he3 hi3 mi3 k
 show B2 Al from_ to a b i3 e3 w2_9=some r→_
 unfold B2
 refine Aj fun y14 hy14=>?_
 refine Hs fun hl15=>?_
 rintro ⟨⟩
 exact De (Aa 300 [pb (F6 hi3),Tp,CP (Bz .lost he3),Ak (Bb hy14),KX (Ip (.row 0 11) w2_9 [y14] (o:=.full) (n:=1) (ns:=(Ba y14)) (Am.wn [y14] (.r (.r (.r (.r (.r (.r (.r (.r (.r (.r (.r .nil)))))))))))) rfl rfl (by simp) (by simpa using hl15)),pi mi3]) (by kernel_rfl) (k (js 12 j3 [(11,.bool true)]))
 rintro w2_9_28 jx_28
 intro h
 have hE:=Option.some.inj h
 subst hE
 exact AB (v:=.agg [.sc (.int .i64 n.kind),.sc (.string n.name),.sc (.string b),.sc (.int .i64 n.n),.sc (.int .i64 n.fr),.sc (.int .i64 n.to),.sc (.int .i64 n.known),.sc (.int .i64 n.tab.den),.sl .lost n.tab.ps.length (rows FC n.tab.ps),.sl (.row 0 11) w2_9_28.length (A7 w2_9_28),.sc (.int .i64 n.att)]) _ _ (BX 300 []) (by kernel_rfl) .body (.wn (.g (.r (.r (.r (.r (.r (.r (.r (.r (.r (.s rfl (.r .nil))))))))))) .nil) (Am.F0 (⟨n.kind,n.name,b,n.n,n.fr,n.to,n.known,n.tab,w2_9_28,n.att⟩:Nd)))
 refine Ae (fun hb12=>?_) fun hb12=>?_
 refine DQ (fun Q v=>DS P Tryz.f21 0 Q (.agg (Ba v))) (fun i4 (w2_9:(List Nd)) (j4:List Value)=>fr 66 [(1,.sc (.string from_)),(2,.sc (.string to)),(3,.sc (.string a)),(4,.sc (.string b)),(5,.ptr 0 0),(10,.ptr 1 0),(11,.ptr 2 0),(12,.sc (.int .i64 ((i4:Nat):Int)))] [17,18,21,22,23,27,28,33,35,38,40,47] j4) (fun (w2_9:(List Nd))=>⟨[(2,.cells [.sc (.int .i64 n.kind),.sc (.string n.name),.sc (.string a),.sc (.int .i64 n.n),.sc (.int .i64 n.fr),.sc (.int .i64 n.to),.sc (.int .i64 n.known),.sc (.int .i64 n.tab.den),.sl .lost n.tab.ps.length (rows FC n.tab.ps),.sl (.row 0 11) w2_9.length (A7 w2_9),.sc (.int .i64 n.att)]),(1,.cells [.sc (.int .i64 0),.sc (.string ByteArray.empty),.sc (.string ByteArray.empty),.sc (.int .i64 0),.sc (.int .i64 0),.sc (.int .i64 0),.sc (.int .i64 0),.sc (.int .i64 0),.sl .full 0 [],.sl .full 0 [],.sc (.int .i64 0)]),(0,.cells (Ba n))],3,[(0,w2_9.length)],1⟩) (fun (w2_9:(List Nd)) (jx:List Value)=>fr 66 [(10,.ptr 1 0),(11,.ptr 2 0)] [17,18,21,22,23,27,28,33,35,38,40,47] jx) (fun (w2_9:(List Nd))=>⟨[(2,.cells [.sc (.int .i64 n.kind),.sc (.string n.name),.sc (.string a),.sc (.int .i64 n.n),.sc (.int .i64 n.fr),.sc (.int .i64 n.to),.sc (.int .i64 n.known),.sc (.int .i64 n.tab.den),.sl .lost n.tab.ps.length (rows FC n.tab.ps),.sl (.row 0 11) w2_9.length (A7 w2_9),.sc (.int .i64 n.att)]),(1,.cells [.sc (.int .i64 0),.sc (.string ByteArray.empty),.sc (.string ByteArray.empty),.sc (.int .i64 0),.sc (.int .i64 0),.sc (.int .i64 0),.sc (.int .i64 0),.sc (.int .i64 0),.sl .full 0 [],.sl .full 0 [],.sc (.int .i64 0)]),(0,.cells (Ba n))],3,[(0,w2_9.length)],1⟩) [.bool false,.bool false,.bool true,.bool true,.bool true,.bool false,.bool false,.bool false,.bool false,.bool true,.bool true] (DI [.b 2 9 11] 1 (sb LA 1012) [.code (sb LA 127)] (Aa 300 (o1++[pb hb8,pb hb11,pb hb12])) (by kernel_rfl)) ?_ ?_ ?_ (fun v h=>by cases h;exact .outer .body)
 rintro i4 w2_9 j4 hge hq
 exact B8 (Aa 300 [pb (IG hge)]) (by kernel_rfl) (hq (js 12 j4 [(11,.bool false)]))
 rintro i4 e4 w2_9 j4 r he4 hi4 mi4 k
 show B4 Al from_ to a b i4 e4 w2_9=some r→_
 unfold B4
 refine Aj fun y18 hy18=>?_
 refine Hs fun hl19=>?_
 rintro ⟨⟩
 exact De (Aa 300 [pb (F6 hi4),Tp,CP (Bz .lost he4),Ak (Bb hy18),KX (Ip (.row 0 11) w2_9 [y18] (o:=.full) (n:=1) (ns:=(Ba y18)) (Am.wn [y18] (.r (.r (.r (.r (.r (.r (.r (.r (.r (.r (.r .nil)))))))))))) rfl rfl (by simp) (by simpa using hl19)),pi mi4]) (by kernel_rfl) (k (js 12 j4 [(11,.bool true)]))
 rintro w2_9_29 jx_29
 intro h
 have hE:=Option.some.inj h
 subst hE
 exact AB (v:=.agg [.sc (.int .i64 n.kind),.sc (.string n.name),.sc (.string a),.sc (.int .i64 n.n),.sc (.int .i64 n.fr),.sc (.int .i64 n.to),.sc (.int .i64 n.known),.sc (.int .i64 n.tab.den),.sl .lost n.tab.ps.length (rows FC n.tab.ps),.sl (.row 0 11) w2_9_29.length (A7 w2_9_29),.sc (.int .i64 n.att)]) _ _ (BX 300 []) (by kernel_rfl) .body (.wn (.g (.r (.r (.r (.r (.r (.r (.r (.r (.r (.s rfl (.r .nil))))))))))) .nil) (Am.F0 (⟨n.kind,n.name,a,n.n,n.fr,n.to,n.known,n.tab,w2_9_29,n.att⟩:Nd)))
 refine DQ (fun Q v=>DS P Tryz.f21 0 Q (.agg (Ba v))) (fun i5 (w2_9:(List Nd)) (j5:List Value)=>fr 66 [(1,.sc (.string from_)),(2,.sc (.string to)),(3,.sc (.string a)),(4,.sc (.string b)),(5,.ptr 0 0),(10,.ptr 1 0),(11,.ptr 2 0),(12,.sc (.int .i64 ((i5:Nat):Int)))] [17,18,21,22,23,27,28,33,35,38,40,47] j5) (fun (w2_9:(List Nd))=>⟨[(2,.cells [.sc (.int .i64 n.kind),.sc (.string n.name),.sc (.string n.unit),.sc (.int .i64 n.n),.sc (.int .i64 n.fr),.sc (.int .i64 n.to),.sc (.int .i64 n.known),.sc (.int .i64 n.tab.den),.sl .lost n.tab.ps.length (rows FC n.tab.ps),.sl (.row 0 11) w2_9.length (A7 w2_9),.sc (.int .i64 n.att)]),(1,.cells [.sc (.int .i64 0),.sc (.string ByteArray.empty),.sc (.string ByteArray.empty),.sc (.int .i64 0),.sc (.int .i64 0),.sc (.int .i64 0),.sc (.int .i64 0),.sc (.int .i64 0),.sl .full 0 [],.sl .full 0 [],.sc (.int .i64 0)]),(0,.cells (Ba n))],3,[(0,w2_9.length)],1⟩) (fun (w2_9:(List Nd)) (jx:List Value)=>fr 66 [(10,.ptr 1 0),(11,.ptr 2 0)] [17,18,21,22,23,27,28,33,35,38,40,47] jx) (fun (w2_9:(List Nd))=>⟨[(2,.cells [.sc (.int .i64 n.kind),.sc (.string n.name),.sc (.string n.unit),.sc (.int .i64 n.n),.sc (.int .i64 n.fr),.sc (.int .i64 n.to),.sc (.int .i64 n.known),.sc (.int .i64 n.tab.den),.sl .lost n.tab.ps.length (rows FC n.tab.ps),.sl (.row 0 11) w2_9.length (A7 w2_9),.sc (.int .i64 n.att)]),(1,.cells [.sc (.int .i64 0),.sc (.string ByteArray.empty),.sc (.string ByteArray.empty),.sc (.int .i64 0),.sc (.int .i64 0),.sc (.int .i64 0),.sc (.int .i64 0),.sc (.int .i64 0),.sl .full 0 [],.sl .full 0 [],.sc (.int .i64 0)]),(0,.cells (Ba n))],3,[(0,w2_9.length)],1⟩) [.bool false,.bool false,.bool true,.bool true,.bool true,.bool false,.bool false,.bool false,.bool false,.bool false,.bool false] (DI [.b 2 9 11] 1 (sb LA 1012) [.code (sb LA 127)] (Aa 300 (o1++[pb hb8,pb hb11,pb hb12])) (by kernel_rfl)) ?_ ?_ ?_ (fun v h=>by cases h;exact .outer .body)
 rintro i5 w2_9 j5 hge hq
 exact B8 (Aa 300 [pb (IG hge)]) (by kernel_rfl) (hq (js 12 j5 [(11,.bool false)]))
 rintro i5 e5 w2_9 j5 r he5 hi5 mi5 k
 show B3 Al from_ to a b i5 e5 w2_9=some r→_
 unfold B3
 refine Aj fun y22 hy22=>?_
 refine Hs fun hl23=>?_
 rintro ⟨⟩
 exact De (Aa 300 [pb (F6 hi5),Tp,CP (Bz .lost he5),Ak (Bb hy22),KX (Ip (.row 0 11) w2_9 [y22] (o:=.full) (n:=1) (ns:=(Ba y22)) (Am.wn [y22] (.r (.r (.r (.r (.r (.r (.r (.r (.r (.r (.r .nil)))))))))))) rfl rfl (by simp) (by simpa using hl23)),pi mi5]) (by kernel_rfl) (k (js 12 j5 [(11,.bool true)]))
 rintro w2_9_30 jx_30
 intro h
 have hE:=Option.some.inj h
 subst hE
 exact AB (v:=.agg [.sc (.int .i64 n.kind),.sc (.string n.name),.sc (.string n.unit),.sc (.int .i64 n.n),.sc (.int .i64 n.fr),.sc (.int .i64 n.to),.sc (.int .i64 n.known),.sc (.int .i64 n.tab.den),.sl .lost n.tab.ps.length (rows FC n.tab.ps),.sl (.row 0 11) w2_9_30.length (A7 w2_9_30),.sc (.int .i64 n.att)]) _ _ (BX 300 []) (by kernel_rfl) .body (.wn (.g (.r (.r (.r (.r (.r (.r (.r (.r (.r (.s rfl (.r .nil))))))))))) .nil) (Am.F0 (⟨n.kind,n.name,n.unit,n.n,n.fr,n.to,n.known,n.tab,w2_9_30,n.att⟩:Nd)))
 refine Ae (fun hb13=>?_) fun hb13=>?_
 refine DQ (fun Q v=>DS P Tryz.f21 0 Q (.agg (Ba v))) (fun i3 (w2_9:(List Nd)) (j3:List Value)=>fr 66 [(1,.sc (.string from_)),(2,.sc (.string to)),(3,.sc (.string a)),(4,.sc (.string b)),(5,.ptr 0 0),(10,.ptr 1 0),(11,.ptr 2 0),(12,.sc (.int .i64 ((i3:Nat):Int)))] [17,18,21,22,23,27,28,33,35,38,40,47] j3) (fun (w2_9:(List Nd))=>⟨[(2,.cells [.sc (.int .i64 n.kind),.sc (.string n.name),.sc (.string b),.sc (.int .i64 n.n),.sc (.int .i64 n.fr),.sc (.int .i64 n.to),.sc (.int .i64 n.known),.sc (.int .i64 n.tab.den),.sl .lost n.tab.ps.length (rows FC n.tab.ps),.sl (.row 0 11) w2_9.length (A7 w2_9),.sc (.int .i64 n.att)]),(1,.cells [.sc (.int .i64 0),.sc (.string ByteArray.empty),.sc (.string ByteArray.empty),.sc (.int .i64 0),.sc (.int .i64 0),.sc (.int .i64 0),.sc (.int .i64 0),.sc (.int .i64 0),.sl .full 0 [],.sl .full 0 [],.sc (.int .i64 0)]),(0,.cells (Ba n))],3,[(0,w2_9.length)],1⟩) (fun (w2_9:(List Nd)) (jx:List Value)=>fr 66 [(10,.ptr 1 0),(11,.ptr 2 0)] [17,18,21,22,23,27,28,33,35,38,40,47] jx) (fun (w2_9:(List Nd))=>⟨[(2,.cells [.sc (.int .i64 n.kind),.sc (.string n.name),.sc (.string b),.sc (.int .i64 n.n),.sc (.int .i64 n.fr),.sc (.int .i64 n.to),.sc (.int .i64 n.known),.sc (.int .i64 n.tab.den),.sl .lost n.tab.ps.length (rows FC n.tab.ps),.sl (.row 0 11) w2_9.length (A7 w2_9),.sc (.int .i64 n.att)]),(1,.cells [.sc (.int .i64 0),.sc (.string ByteArray.empty),.sc (.string ByteArray.empty),.sc (.int .i64 0),.sc (.int .i64 0),.sc (.int .i64 0),.sc (.int .i64 0),.sc (.int .i64 0),.sl .full 0 [],.sl .full 0 [],.sc (.int .i64 0)]),(0,.cells (Ba n))],3,[(0,w2_9.length)],1⟩) [.bool false,.bool false,.bool false,.bool false,.bool false,undef,.bool false,.bool true,.bool true] (DI [.b 2 9 11] 1 (sb LA 1012) [.code (sb LA 127)] (Aa 300 [pb hb1,pb hb7,pb hb13]) (by kernel_rfl)) ?_ ?_ ?_ (fun v h=>by cases h;exact .outer .body)
 rintro i3 w2_9 j3 hge hq
 exact B8 (Aa 300 [pb (IG hge)]) (by kernel_rfl) (hq (js 12 j3 [(11,.bool false)]))
 rintro i3 e3 w2_9 j3 r he3 hi3 mi3 k
 show B2 Al from_ to a b i3 e3 w2_9=some r→_
 unfold B2
 refine Aj fun y14 hy14=>?_
 refine Hs fun hl15=>?_
 rintro ⟨⟩
 exact De (Aa 300 [pb (F6 hi3),Tp,CP (Bz .lost he3),Ak (Bb hy14),KX (Ip (.row 0 11) w2_9 [y14] (o:=.full) (n:=1) (ns:=(Ba y14)) (Am.wn [y14] (.r (.r (.r (.r (.r (.r (.r (.r (.r (.r (.r .nil)))))))))))) rfl rfl (by simp) (by simpa using hl15)),pi mi3]) (by kernel_rfl) (k (js 12 j3 [(11,.bool true)]))
 rintro w2_9_31 jx_31
 intro h
 have hE:=Option.some.inj h
 subst hE
 exact AB (v:=.agg [.sc (.int .i64 n.kind),.sc (.string n.name),.sc (.string b),.sc (.int .i64 n.n),.sc (.int .i64 n.fr),.sc (.int .i64 n.to),.sc (.int .i64 n.known),.sc (.int .i64 n.tab.den),.sl .lost n.tab.ps.length (rows FC n.tab.ps),.sl (.row 0 11) w2_9_31.length (A7 w2_9_31),.sc (.int .i64 n.att)]) _ _ (BX 300 []) (by kernel_rfl) .body (.wn (.g (.r (.r (.r (.r (.r (.r (.r (.r (.r (.s rfl (.r .nil))))))))))) .nil) (Am.F0 (⟨n.kind,n.name,b,n.n,n.fr,n.to,n.known,n.tab,w2_9_31,n.att⟩:Nd)))
 refine Ae (fun hb14=>?_) fun hb14=>?_
 refine DQ (fun Q v=>DS P Tryz.f21 0 Q (.agg (Ba v))) (fun i4 (w2_9:(List Nd)) (j4:List Value)=>fr 66 [(1,.sc (.string from_)),(2,.sc (.string to)),(3,.sc (.string a)),(4,.sc (.string b)),(5,.ptr 0 0),(10,.ptr 1 0),(11,.ptr 2 0),(12,.sc (.int .i64 ((i4:Nat):Int)))] [17,18,21,22,23,27,28,33,35,38,40,47] j4) (fun (w2_9:(List Nd))=>⟨[(2,.cells [.sc (.int .i64 n.kind),.sc (.string n.name),.sc (.string a),.sc (.int .i64 n.n),.sc (.int .i64 n.fr),.sc (.int .i64 n.to),.sc (.int .i64 n.known),.sc (.int .i64 n.tab.den),.sl .lost n.tab.ps.length (rows FC n.tab.ps),.sl (.row 0 11) w2_9.length (A7 w2_9),.sc (.int .i64 n.att)]),(1,.cells [.sc (.int .i64 0),.sc (.string ByteArray.empty),.sc (.string ByteArray.empty),.sc (.int .i64 0),.sc (.int .i64 0),.sc (.int .i64 0),.sc (.int .i64 0),.sc (.int .i64 0),.sl .full 0 [],.sl .full 0 [],.sc (.int .i64 0)]),(0,.cells (Ba n))],3,[(0,w2_9.length)],1⟩) (fun (w2_9:(List Nd)) (jx:List Value)=>fr 66 [(10,.ptr 1 0),(11,.ptr 2 0)] [17,18,21,22,23,27,28,33,35,38,40,47] jx) (fun (w2_9:(List Nd))=>⟨[(2,.cells [.sc (.int .i64 n.kind),.sc (.string n.name),.sc (.string a),.sc (.int .i64 n.n),.sc (.int .i64 n.fr),.sc (.int .i64 n.to),.sc (.int .i64 n.known),.sc (.int .i64 n.tab.den),.sl .lost n.tab.ps.length (rows FC n.tab.ps),.sl (.row 0 11) w2_9.length (A7 w2_9),.sc (.int .i64 n.att)]),(1,.cells [.sc (.int .i64 0),.sc (.string ByteArray.empty),.sc (.string ByteArray.empty),.sc (.int .i64 0),.sc (.int .i64 0),.sc (.int .i64 0),.sc (.int .i64 0),.sc (.int .i64 0),.sl .full 0 [],.sl .full 0 [],.sc (.int .i64 0)]),(0,.cells (Ba n))],3,[(0,w2_9.length)],1⟩) [.bool false,.bool false,.bool false,.bool false,.bool false,undef,.bool false,.bool false,.bool false,.bool true,.bool true] (DI [.b 2 9 11] 1 (sb LA 1012) [.code (sb LA 127)] (Aa 300 [pb hb1,pb hb7,pb hb13,pb hb14]) (by kernel_rfl)) ?_ ?_ ?_ (fun v h=>by cases h;exact .outer .body)
 rintro i4 w2_9 j4 hge hq
 exact B8 (Aa 300 [pb (IG hge)]) (by kernel_rfl) (hq (js 12 j4 [(11,.bool false)]))
 rintro i4 e4 w2_9 j4 r he4 hi4 mi4 k
 show B4 Al from_ to a b i4 e4 w2_9=some r→_
 unfold B4
 refine Aj fun y18 hy18=>?_
 refine Hs fun hl19=>?_
 rintro ⟨⟩
 exact De (Aa 300 [pb (F6 hi4),Tp,CP (Bz .lost he4),Ak (Bb hy18),KX (Ip (.row 0 11) w2_9 [y18] (o:=.full) (n:=1) (ns:=(Ba y18)) (Am.wn [y18] (.r (.r (.r (.r (.r (.r (.r (.r (.r (.r (.r .nil)))))))))))) rfl rfl (by simp) (by simpa using hl19)),pi mi4]) (by kernel_rfl) (k (js 12 j4 [(11,.bool true)]))
 rintro w2_9_32 jx_32
 intro h
 have hE:=Option.some.inj h
 subst hE
 exact AB (v:=.agg [.sc (.int .i64 n.kind),.sc (.string n.name),.sc (.string a),.sc (.int .i64 n.n),.sc (.int .i64 n.fr),.sc (.int .i64 n.to),.sc (.int .i64 n.known),.sc (.int .i64 n.tab.den),.sl .lost n.tab.ps.length (rows FC n.tab.ps),.sl (.row 0 11) w2_9_32.length (A7 w2_9_32),.sc (.int .i64 n.att)]) _ _ (BX 300 []) (by kernel_rfl) .body (.wn (.g (.r (.r (.r (.r (.r (.r (.r (.r (.r (.s rfl (.r .nil))))))))))) .nil) (Am.F0 (⟨n.kind,n.name,a,n.n,n.fr,n.to,n.known,n.tab,w2_9_32,n.att⟩:Nd)))
 refine DQ (fun Q v=>DS P Tryz.f21 0 Q (.agg (Ba v))) (fun i5 (w2_9:(List Nd)) (j5:List Value)=>fr 66 [(1,.sc (.string from_)),(2,.sc (.string to)),(3,.sc (.string a)),(4,.sc (.string b)),(5,.ptr 0 0),(10,.ptr 1 0),(11,.ptr 2 0),(12,.sc (.int .i64 ((i5:Nat):Int)))] [17,18,21,22,23,27,28,33,35,38,40,47] j5) (fun (w2_9:(List Nd))=>⟨[(2,.cells [.sc (.int .i64 n.kind),.sc (.string n.name),.sc (.string n.unit),.sc (.int .i64 n.n),.sc (.int .i64 n.fr),.sc (.int .i64 n.to),.sc (.int .i64 n.known),.sc (.int .i64 n.tab.den),.sl .lost n.tab.ps.length (rows FC n.tab.ps),.sl (.row 0 11) w2_9.length (A7 w2_9),.sc (.int .i64 n.att)]),(1,.cells [.sc (.int .i64 0),.sc (.string ByteArray.empty),.sc (.string ByteArray.empty),.sc (.int .i64 0),.sc (.int .i64 0),.sc (.int .i64 0),.sc (.int .i64 0),.sc (.int .i64 0),.sl .full 0 [],.sl .full 0 [],.sc (.int .i64 0)]),(0,.cells (Ba n))],3,[(0,w2_9.length)],1⟩) (fun (w2_9:(List Nd)) (jx:List Value)=>fr 66 [(10,.ptr 1 0),(11,.ptr 2 0)] [17,18,21,22,23,27,28,33,35,38,40,47] jx) (fun (w2_9:(List Nd))=>⟨[(2,.cells [.sc (.int .i64 n.kind),.sc (.string n.name),.sc (.string n.unit),.sc (.int .i64 n.n),.sc (.int .i64 n.fr),.sc (.int .i64 n.to),.sc (.int .i64 n.known),.sc (.int .i64 n.tab.den),.sl .lost n.tab.ps.length (rows FC n.tab.ps),.sl (.row 0 11) w2_9.length (A7 w2_9),.sc (.int .i64 n.att)]),(1,.cells [.sc (.int .i64 0),.sc (.string ByteArray.empty),.sc (.string ByteArray.empty),.sc (.int .i64 0),.sc (.int .i64 0),.sc (.int .i64 0),.sc (.int .i64 0),.sc (.int .i64 0),.sl .full 0 [],.sl .full 0 [],.sc (.int .i64 0)]),(0,.cells (Ba n))],3,[(0,w2_9.length)],1⟩) [.bool false,.bool false,.bool false,.bool false,.bool false,undef,.bool false,.bool false,.bool false,.bool false,.bool false] (DI [.b 2 9 11] 1 (sb LA 1012) [.code (sb LA 127)] (Aa 300 [pb hb1,pb hb7,pb hb13,pb hb14]) (by kernel_rfl)) ?_ ?_ ?_ (fun v h=>by cases h;exact .outer .body)
 rintro i5 w2_9 j5 hge hq
 exact B8 (Aa 300 [pb (IG hge)]) (by kernel_rfl) (hq (js 12 j5 [(11,.bool false)]))
 rintro i5 e5 w2_9 j5 r he5 hi5 mi5 k
 show B3 Al from_ to a b i5 e5 w2_9=some r→_
 unfold B3
 refine Aj fun y22 hy22=>?_
 refine Hs fun hl23=>?_
 rintro ⟨⟩
 exact De (Aa 300 [pb (F6 hi5),Tp,CP (Bz .lost he5),Ak (Bb hy22),KX (Ip (.row 0 11) w2_9 [y22] (o:=.full) (n:=1) (ns:=(Ba y22)) (Am.wn [y22] (.r (.r (.r (.r (.r (.r (.r (.r (.r (.r (.r .nil)))))))))))) rfl rfl (by simp) (by simpa using hl23)),pi mi5]) (by kernel_rfl) (k (js 12 j5 [(11,.bool true)]))
 rintro w2_9_33 jx_33
 intro h
 have hE:=Option.some.inj h
 subst hE
 exact AB (v:=.agg [.sc (.int .i64 n.kind),.sc (.string n.name),.sc (.string n.unit),.sc (.int .i64 n.n),.sc (.int .i64 n.fr),.sc (.int .i64 n.to),.sc (.int .i64 n.known),.sc (.int .i64 n.tab.den),.sl .lost n.tab.ps.length (rows FC n.tab.ps),.sl (.row 0 11) w2_9_33.length (A7 w2_9_33),.sc (.int .i64 n.att)]) _ _ (BX 300 []) (by kernel_rfl) .body (.wn (.g (.r (.r (.r (.r (.r (.r (.r (.r (.r (.s rfl (.r .nil))))))))))) .nil) (Am.F0 (⟨n.kind,n.name,n.unit,n.n,n.fr,n.to,n.known,n.tab,w2_9_33,n.att⟩:Nd)))
noncomputable def Bc:Nat→Nd→ByteArray→ByteArray→ByteArray→ByteArray→Option Nd
 | 0,_,_,_,_,_=>none
 | qn+1,n,from_,to,a,b=>Gt (Bc qn) n from_ to a b
theorem Ni:∀ qn:Nat,∀ {n:Nd} {from_:ByteArray} {to:ByteArray} {a:ByteArray} {b:ByteArray} {yR:Nd},Bc qn n from_ to a b=some yR→Pure P G 21 [.agg (Ba n),.sc (.string from_),.sc (.string to),.sc (.string a),.sc (.string b)] (.agg (Ba yR)):=by
 intro qn
 induction qn with
 | zero=>exact (fun h=>by simp only [Bc] at h;cases h)
 | succ qn ih=>exact (fun h=>LH (Bc qn) ih (by rw [Bc] at h;exact h))
noncomputable def D9 (n:Nd) (from_:ByteArray) (to:ByteArray) (a:ByteArray) (b:ByteArray):Option Nd:=W4 (fun qn=>Bc qn n from_ to a b)
theorem JV {n:Nd} {from_:ByteArray} {to:ByteArray} {a:ByteArray} {b:ByteArray} {yR:Nd} (h:D9 n from_ to a b=some yR):Pure P G 21 [.agg (Ba n),.sc (.string from_),.sc (.string to),.sc (.string a),.sc (.string b)] (.agg (Ba yR)):=by
 obtain ⟨qn,h⟩:=Uf h
 exact (Ni qn) h
end Mo
end Go.Proofs.YtkfplcngmiljaaaGreatDoor

