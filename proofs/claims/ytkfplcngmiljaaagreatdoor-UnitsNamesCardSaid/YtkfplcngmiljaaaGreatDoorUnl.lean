/- Part of a proof: see the last text. -/
import Derived.Test.YtkfplcngmiljaaaGreatDoorUnk
set_option linter.unusedVariables false
set_option linter.unusedSimpArgs false
namespace Go.Proofs.YtkfplcngmiljaaaGreatDoor
open AI Go
namespace Mo
set_option maxRecDepth 100000
set_option maxHeartbeats 4000000
noncomputable def u7:Code:=A4 Tryz.f18
theorem b18:Tryz.f18.body=some u7:=by kernel_rfl
noncomputable def FT (DB:Nd→ByteArray→Option Bool) (name:ByteArray) (i0:Nat) (e0:Nd) :Option (Lp Unit Unit Bool):=(DB e0 name).bind fun y1=>cond y1 (some (.rt true)) (some (.nx ()))
noncomputable def Gr (DB:Nd→ByteArray→Option Bool) (n:Nd) (name:ByteArray):Option Bool:=cond (BL n.name.data.toList name.data.toList) (some true) ((Gv n.kids.length (AT (fun i y x=>FT DB name i y ) (fun x=>()) (n.kids.drop 0) 0 ())).bind (GF (fun (_:Unit)=>some false) (fun v=>some v)))
theorem Mt (DB:Nd→ByteArray→Option Bool) (J6:∀ {n:Nd} {name:ByteArray} {yR:Bool},DB n name=some yR→Pure P G 18 [.agg (A9 n),.sc (.string name)] (.sc (.bool yR))) {n:Nd} {name:ByteArray} {yR:Bool} (h:Gr DB n name=some yR):Pure P G 18 [.agg (A9 n),.sc (.string name)] (.sc (.bool yR)):=by
 unfold Gr at h
 refine BH Hd.mixed Hd.Ac (AG Tryz.func18 b18 ?_) (Bl (Am.F1 n) (Bl rfl rfl)) rfl
 revert h
 refine Ae (fun hb1=>?_) fun hb1=>?_
 rintro ⟨⟩
 exact rS (Aa 300 [pb hb1]) (by kernel_rfl)
 refine DJ (fun Q v=>DI P Tryz.f18 0 Q (.sc (.bool v))) (fun i0 (_:Unit) (j0:List Value)=>fr 24 [(1,.sc (.string name)),(2,.ptr 0 0),(5,.sc (.int .i64 ((i0:Nat):Int)))] [4,9,14,23] j0) (fun (_:Unit)=>⟨[(0,.cells (A9 n))],1,[],0⟩) (fun (_:Unit) (jx:List Value)=>fr 24 [] [4,9,14,23] jx) (fun (_:Unit)=>⟨[(0,.cells (A9 n))],1,[],0⟩) [.bool false,.bool false] (DG [] 0 (sb u7 116) [.code (sb u7 15)] (Aa 300 [pb hb1]) (by kernel_rfl)) ?_ ?_ ?_ (fun v h=>by cases h;exact .outer .body)
 rintro i0 ⟨⟩ j0 hge hq
 exact BV (Aa 300 [pb (II hge)]) (by kernel_rfl) (hq (js 4 j0 [(2,.bool false)]))
 rintro i0 e0 ⟨⟩ j0 r he0 hi0 mi0 k
 show FT DB name i0 e0 =some r→_
 unfold FT
 refine Aj fun y1 hy1=>?_
 refine Ae (fun hv=>?_) fun hv=>?_
 subst hv
 rintro ⟨⟩
 exact AA _ _ (Aa 300 [pb (F5 hi0),CL (Bu .lost he0),Ak (J6 hy1)]) (by kernel_rfl) (.GX k) .sc
 subst hv
 rintro ⟨⟩
 exact C9 (Aa 300 [pb (F5 hi0),CL (Bu .lost he0),Ak (J6 hy1),pi mi0]) (by kernel_rfl) (k (js 4 j0 [(2,.bool true),(3,.bool false)]))
 rintro ⟨⟩ jx_2
 intro h
 have hE:=Option.some.inj h
 subst hE
 exact AA _ _ (BU 300 []) (by kernel_rfl) .body .sc
noncomputable def C5:Nat→Nd→ByteArray→Option Bool
 | 0,_,_=>none
 | qn+1,n,name=>Gr (C5 qn) n name
theorem Nr:∀ qn:Nat,∀ {n:Nd} {name:ByteArray} {yR:Bool},C5 qn n name=some yR→Pure P G 18 [.agg (A9 n),.sc (.string name)] (.sc (.bool yR)):=by
 intro qn
 induction qn with
 | zero=>exact (fun h=>by simp only [C5] at h;cases h)
 | succ qn ih=>exact (fun h=>Mt (C5 qn) ih (by rw [C5] at h;exact h))
noncomputable def Gx (n:Nd) (name:ByteArray):Option Bool:=V8 (fun qn=>C5 qn n name)
theorem J7 {n:Nd} {name:ByteArray} {yR:Bool} (h:Gx n name=some yR):Pure P G 18 [.agg (A9 n),.sc (.string name)] (.sc (.bool yR)):=by
 obtain ⟨qn,h⟩:=Tu h
 exact (Nr qn) h
noncomputable def wQ:Code:=A4 Tryz.f90
theorem b90:Tryz.f90.body=some wQ:=by kernel_rfl
noncomputable def G3 (Ei:Nd→Int→Option Bool) (limit:Int) (i0:Nat) (e0:Nd) :Option (Lp Unit Unit Bool):=(Ei e0 (RB limit 1)).bind fun y1=>cond y1 (some (.nx ())) (some (.rt false))
noncomputable def H9 (Ei:Nd→Int→Option Bool) (n:Nd) (limit:Int):Option Bool:=cond (FV limit 1) (some false) ((Gv n.kids.length (AT (fun i y x=>G3 Ei limit i y ) (fun x=>()) (n.kids.drop 0) 0 ())).bind (GF (fun (_:Unit)=>some true) (fun v=>some v)))
theorem NS (Ei:Nd→Int→Option Bool) (Lh:∀ {n:Nd} {limit:Int} {yR:Bool},Ei n limit=some yR→Pure P G 90 [.agg (A9 n),.sc (.int .i64 limit)] (.sc (.bool yR))) {n:Nd} {limit:Int} {yR:Bool} (h:H9 Ei n limit=some yR):Pure P G 90 [.agg (A9 n),.sc (.int .i64 limit)] (.sc (.bool yR)):=by
 unfold H9 at h
 refine BH Hd.mixed Hd.Ac (AG Tryz.func90 b90 ?_) (Bl (Am.F1 n) (Bl rfl rfl)) rfl
 revert h
 refine Ae (fun hb1=>?_) fun hb1=>?_
 rintro ⟨⟩
 exact rS (Aa 300 [pb hb1]) (by kernel_rfl)
 refine DJ (fun Q v=>DI P Tryz.f90 0 Q (.sc (.bool v))) (fun i0 (_:Unit) (j0:List Value)=>fr 24 [(1,.sc (.int .i64 limit)),(2,.ptr 0 0),(5,.sc (.int .i64 ((i0:Nat):Int)))] [4,7,12,22,23] j0) (fun (_:Unit)=>⟨[(0,.cells (A9 n))],1,[],0⟩) (fun (_:Unit) (jx:List Value)=>fr 24 [] [4,7,12,22,23] jx) (fun (_:Unit)=>⟨[(0,.cells (A9 n))],1,[],0⟩) [.bool false,.bool false] (DG [] 0 (sb wQ 116) [.code (sb wQ 15)] (Aa 300 [pb hb1]) (by kernel_rfl)) ?_ ?_ ?_ (fun v h=>by cases h;exact .outer .body)
 rintro i0 ⟨⟩ j0 hge hq
 exact BV (Aa 300 [pb (II hge)]) (by kernel_rfl) (hq (js 5 j0 [(2,.bool false)]))
 rintro i0 e0 ⟨⟩ j0 r he0 hi0 mi0 k
 show G3 Ei limit i0 e0 =some r→_
 unfold G3
 refine Aj fun y1 hy1=>?_
 refine Ae (fun hv=>?_) fun hv=>?_
 subst hv
 rintro ⟨⟩
 exact C9 (Aa 300 [pb (F5 hi0),CL (Bu .lost he0),pk,Ak (Lh hy1),pi mi0]) (by kernel_rfl) (k [(jv j0 0),(jv j0 1),.bool true,.bool true,.bool false])
 subst hv
 rintro ⟨⟩
 exact AA _ _ (Aa 300 [pb (F5 hi0),CL (Bu .lost he0),pk,Ak (Lh hy1)]) (by kernel_rfl) (.GX k) .sc
 rintro ⟨⟩ jx_2
 intro h
 have hE:=Option.some.inj h
 subst hE
 exact AA _ _ (BU 300 []) (by kernel_rfl) .body .sc
noncomputable def DR:Nat→Nd→Int→Option Bool
 | 0,_,_=>none
 | qn+1,n,limit=>H9 (DR qn) n limit
theorem OJ:∀ qn:Nat,∀ {n:Nd} {limit:Int} {yR:Bool},DR qn n limit=some yR→Pure P G 90 [.agg (A9 n),.sc (.int .i64 limit)] (.sc (.bool yR)):=by
 intro qn
 induction qn with
 | zero=>exact (fun h=>by simp only [DR] at h;cases h)
 | succ qn ih=>exact (fun h=>NS (DR qn) ih (by rw [DR] at h;exact h))
noncomputable def JO (n:Nd) (limit:Int):Option Bool:=V8 (fun qn=>DR qn n limit)
theorem PV {n:Nd} {limit:Int} {yR:Bool} (h:JO n limit=some yR):Pure P G 90 [.agg (A9 n),.sc (.int .i64 limit)] (.sc (.bool yR)):=by
 obtain ⟨qn,h⟩:=Tu h
 exact (OJ qn) h
noncomputable def B63:Code:=A4 Tryz.f63
theorem b63:Tryz.f63.body=some B63:=by kernel_rfl
noncomputable def Gu  (n:Nd):Option Bool:=(DQ n 2000).bind fun y1=>cond y1 ((JO n 40).bind fun y2=>some y2) (some false)
theorem Hu   {n:Nd} {yR:Bool} (h:Gu  n=some yR):Pure P G 63 [.agg (A9 n)] (.sc (.bool yR)):=by
 unfold Gu at h
 refine BH Hd.mixed Hd.Ac (AG Tryz.func63 b63 ?_) (Bl (Am.F1 n) rfl) rfl
 revert h
 refine Aj fun y1 hy1=>?_
 refine Ae (fun hv=>?_) fun hv=>?_
 subst hv
 refine Aj fun y2 hy2=>?_
 intro h
 have hE:=Option.some.inj h
 subst hE
 exact rS (Aa 300 [Ak (E8 hy1),Ak (PV hy2)]) (by kernel_rfl)
 subst hv
 rintro ⟨⟩
 exact rS (Aa 300 [Ak (E8 hy1)]) (by kernel_rfl)
noncomputable def B66:Code:=A4 Tryz.f66
theorem Z2:Tryz.f66.body=some B66:=by kernel_rfl
noncomputable def CY  (n:Nd):Option Bool:=cond (BL n.name.data.toList ByteArray.empty.data.toList) (cond (BL n.unit.data.toList ByteArray.empty.data.toList) (cond (Br n.n 0) (cond (Br n.fr 0) (cond (Br n.to 0) (cond (Br n.known 0) (cond (Br n.tab.den 0) (cond (Br ((n.tab.ps.length:Nat):Int) 0) (some true) (some false)) (some false)) (some false)) (some false)) (some false)) (some false)) (some false)) (some false)
theorem FA   {n:Nd} {yR:Bool} (h:CY  n=some yR):Pure P G 66 [.agg (A9 n),.sc (.int .i64 32)] (.sc (.bool yR)):=by
 unfold CY at h
 refine BH Hd.mixed Hd.Ac (AG Tryz.func66 Z2 ?_) (Bl (Am.F1 n) (Bl rfl rfl)) rfl
 revert h
 refine Ae (fun hb1=>?_) fun hb1=>?_
 let o1:List (PC P G):=[pk,pk,pb hb1,pk,pk]
 refine Ae (fun hb2=>?_) fun hb2=>?_
 let o2:List (PC P G):=o1++[pb hb2,pk,pk]
 refine Ae (fun hb3=>?_) fun hb3=>?_
 let o3:List (PC P G):=o2++[pb hb3,pk,pk]
 refine Ae (fun hb4=>?_) fun hb4=>?_
 refine Ae (fun hb5=>?_) fun hb5=>?_
 refine Ae (fun hb6=>?_) fun hb6=>?_
 refine Ae (fun hb7=>?_) fun hb7=>?_
 refine Ae (fun hb8=>?_) fun hb8=>?_
 rintro ⟨⟩
 exact rS (Aa 300 (o3++[pb hb4,pb hb5,pb hb6,pk,pk,pb hb7,pb hb8,pk,pk])) (by kernel_rfl)
 rintro ⟨⟩
 exact rS (Aa 300 (o3++[pb hb4,pb hb5,pb hb6,pk,pk,pb hb7,pb hb8])) (by kernel_rfl)
 rintro ⟨⟩
 exact rS (Aa 300 (o3++[pb hb4,pb hb5,pb hb6,pk,pk,pb hb7])) (by kernel_rfl)
 rintro ⟨⟩
 exact rS (Aa 300 (o3++[pb hb4,pb hb5,pb hb6])) (by kernel_rfl)
 rintro ⟨⟩
 exact rS (Aa 300 (o3++[pb hb4,pb hb5])) (by kernel_rfl)
 rintro ⟨⟩
 exact rS (Aa 300 (o3++[pb hb4])) (by kernel_rfl)
 rintro ⟨⟩
 exact rS (Aa 300 (o2++[pb hb3])) (by kernel_rfl)
 rintro ⟨⟩
 exact rS (Aa 300 (o1++[pb hb2])) (by kernel_rfl)
 rintro ⟨⟩
 exact rS (Aa 300 [pk,pk,pb hb1]) (by kernel_rfl)
noncomputable def DK  (n:Nd):Option Bool:=cond (BL n.name.data.toList ByteArray.empty.data.toList) (cond (Br n.fr 0) (cond (Br n.to 0) (cond (Br n.known 0) (cond (Br n.tab.den 0) (cond (Br ((n.tab.ps.length:Nat):Int) 0) (cond (Br ((n.kids.length:Nat):Int) 0) (some true) (some false)) (some false)) (some false)) (some false)) (some false)) (some false)) (some false)
theorem ID   {n:Nd} {yR:Bool} (h:DK  n=some yR):Pure P G 66 [.agg (A9 n),.sc (.int .i64 6)] (.sc (.bool yR)):=by
 unfold DK at h
 refine BH Hd.mixed Hd.Ac (AG Tryz.func66 Z2 ?_) (Bl (Am.F1 n) (Bl rfl rfl)) rfl
 revert h
 refine Ae (fun hb1=>?_) fun hb1=>?_
 let o1:List (PC P G):=[pk,pk,pb hb1,pk,pk,pk,pk,pk,pk]
 refine Ae (fun hb2=>?_) fun hb2=>?_
 refine Ae (fun hb3=>?_) fun hb3=>?_
 refine Ae (fun hb4=>?_) fun hb4=>?_
 let o2:List (PC P G):=o1++[pb hb2,pb hb3,pb hb4,pk,pk]
 refine Ae (fun hb5=>?_) fun hb5=>?_
 refine Ae (fun hb6=>?_) fun hb6=>?_
 refine Ae (fun hb7=>?_) fun hb7=>?_
 rintro ⟨⟩
 exact rS (Aa 300 (o2++[pb hb5,pb hb6,pk,pk,pb hb7])) (by kernel_rfl)
 rintro ⟨⟩
 exact rS (Aa 300 (o2++[pb hb5,pb hb6,pk,pk,pb hb7])) (by kernel_rfl)
 rintro ⟨⟩
 exact rS (Aa 300 (o2++[pb hb5,pb hb6])) (by kernel_rfl)
 rintro ⟨⟩
 exact rS (Aa 300 (o2++[pb hb5])) (by kernel_rfl)
 rintro ⟨⟩
 exact rS (Aa 300 (o1++[pb hb2,pb hb3,pb hb4])) (by kernel_rfl)
 rintro ⟨⟩
 exact rS (Aa 300 (o1++[pb hb2,pb hb3])) (by kernel_rfl)
 rintro ⟨⟩
 exact rS (Aa 300 (o1++[pb hb2])) (by kernel_rfl)
 rintro ⟨⟩
 exact rS (Aa 300 [pk,pk,pb hb1]) (by kernel_rfl)
noncomputable def DL  (n:Nd):Option Bool:=cond (BL n.unit.data.toList ByteArray.empty.data.toList) (cond (Br n.n 0) (cond (Br n.fr 0) (cond (Br n.to 0) (cond (Br n.known 0) (cond (Br n.tab.den 0) (cond (Br ((n.tab.ps.length:Nat):Int) 0) (cond (Br ((n.kids.length:Nat):Int) 0) (some true) (some false)) (some false)) (some false)) (some false)) (some false)) (some false)) (some false)) (some false)
theorem Ek   {n:Nd} {yR:Bool} (h:DL  n=some yR):Pure P G 66 [.agg (A9 n),.sc (.int .i64 1)] (.sc (.bool yR)):=by
 unfold DL at h
 refine BH Hd.mixed Hd.Ac (AG Tryz.func66 Z2 ?_) (Bl (Am.F1 n) (Bl rfl rfl)) rfl
 revert h
 let o1:List (PC P G):=[pk,pk,pk,pk]
 refine Ae (fun hb1=>?_) fun hb1=>?_
 let o2:List (PC P G):=o1++[pb hb1,pk,pk]
 refine Ae (fun hb2=>?_) fun hb2=>?_
 let o3:List (PC P G):=o2++[pb hb2,pk,pk]
 refine Ae (fun hb3=>?_) fun hb3=>?_
 refine Ae (fun hb4=>?_) fun hb4=>?_
 refine Ae (fun hb5=>?_) fun hb5=>?_
 let o4:List (PC P G):=o3++[pb hb3,pb hb4,pb hb5,pk,pk]
 refine Ae (fun hb6=>?_) fun hb6=>?_
 refine Ae (fun hb7=>?_) fun hb7=>?_
 refine Ae (fun hb8=>?_) fun hb8=>?_
 rintro ⟨⟩
 exact rS (Aa 300 (o4++[pb hb6,pb hb7,pk,pk,pb hb8])) (by kernel_rfl)
 rintro ⟨⟩
 exact rS (Aa 300 (o4++[pb hb6,pb hb7,pk,pk,pb hb8])) (by kernel_rfl)
 rintro ⟨⟩
 exact rS (Aa 300 (o4++[pb hb6,pb hb7])) (by kernel_rfl)
 rintro ⟨⟩
 exact rS (Aa 300 (o4++[pb hb6])) (by kernel_rfl)
 rintro ⟨⟩
 exact rS (Aa 300 (o3++[pb hb3,pb hb4,pb hb5])) (by kernel_rfl)
 rintro ⟨⟩
 exact rS (Aa 300 (o3++[pb hb3,pb hb4])) (by kernel_rfl)
 rintro ⟨⟩
 exact rS (Aa 300 (o3++[pb hb3])) (by kernel_rfl)
 rintro ⟨⟩
 exact rS (Aa 300 (o2++[pb hb2])) (by kernel_rfl)
 rintro ⟨⟩
 exact rS (Aa 300 (o1++[pb hb1])) (by kernel_rfl)
noncomputable def Ez  (n:Nd):Option Bool:=cond (BL n.name.data.toList ByteArray.empty.data.toList) (cond (BL n.unit.data.toList ByteArray.empty.data.toList) (cond (Br n.fr 0) (cond (Br n.to 0) (cond (Br n.known 0) (cond (Br n.tab.den 0) (cond (Br ((n.tab.ps.length:Nat):Int) 0) (cond (Br ((n.kids.length:Nat):Int) 0) (some true) (some false)) (some false)) (some false)) (some false)) (some false)) (some false)) (some false)) (some false)
theorem IE   {n:Nd} {yR:Bool} (h:Ez  n=some yR):Pure P G 66 [.agg (A9 n),.sc (.int .i64 4)] (.sc (.bool yR)):=by
 unfold Ez at h
 refine BH Hd.mixed Hd.Ac (AG Tryz.func66 Z2 ?_) (Bl (Am.F1 n) (Bl rfl rfl)) rfl
 revert h
 refine Ae (fun hb1=>?_) fun hb1=>?_
 let o1:List (PC P G):=[pk,pk,pb hb1,pk,pk]
 refine Ae (fun hb2=>?_) fun hb2=>?_
 let o2:List (PC P G):=o1++[pb hb2,pk,pk,pk,pk]
 refine Ae (fun hb3=>?_) fun hb3=>?_
 refine Ae (fun hb4=>?_) fun hb4=>?_
 refine Ae (fun hb5=>?_) fun hb5=>?_
 let o3:List (PC P G):=o2++[pb hb3,pb hb4,pb hb5,pk,pk]
 refine Ae (fun hb6=>?_) fun hb6=>?_
 refine Ae (fun hb7=>?_) fun hb7=>?_
 refine Ae (fun hb8=>?_) fun hb8=>?_
 rintro ⟨⟩
 exact rS (Aa 300 (o3++[pb hb6,pb hb7,pk,pk,pb hb8])) (by kernel_rfl)
 rintro ⟨⟩
 exact rS (Aa 300 (o3++[pb hb6,pb hb7,pk,pk,pb hb8])) (by kernel_rfl)
 rintro ⟨⟩
 exact rS (Aa 300 (o3++[pb hb6,pb hb7])) (by kernel_rfl)
 rintro ⟨⟩
 exact rS (Aa 300 (o3++[pb hb6])) (by kernel_rfl)
 rintro ⟨⟩
 exact rS (Aa 300 (o2++[pb hb3,pb hb4,pb hb5])) (by kernel_rfl)
 rintro ⟨⟩
 exact rS (Aa 300 (o2++[pb hb3,pb hb4])) (by kernel_rfl)
 rintro ⟨⟩
 exact rS (Aa 300 (o2++[pb hb3])) (by kernel_rfl)
 rintro ⟨⟩
 exact rS (Aa 300 (o1++[pb hb2])) (by kernel_rfl)
 rintro ⟨⟩
 exact rS (Aa 300 [pk,pk,pb hb1]) (by kernel_rfl)
noncomputable def Dv  (n:Nd):Option Bool:=cond (BL n.unit.data.toList ByteArray.empty.data.toList) (cond (Br n.n 0) (cond (Br n.fr 0) (cond (Br n.to 0) (cond (Br n.known 0) (cond (Br n.tab.den 0) (cond (Br ((n.tab.ps.length:Nat):Int) 0) (some true) (some false)) (some false)) (some false)) (some false)) (some false)) (some false)) (some false)
theorem HN   {n:Nd} {yR:Bool} (h:Dv  n=some yR):Pure P G 66 [.agg (A9 n),.sc (.int .i64 33)] (.sc (.bool yR)):=by
 unfold Dv at h
 refine BH Hd.mixed Hd.Ac (AG Tryz.func66 Z2 ?_) (Bl (Am.F1 n) (Bl rfl rfl)) rfl
 revert h
 let o1:List (PC P G):=[pk,pk,pk,pk]
 refine Ae (fun hb1=>?_) fun hb1=>?_
 let o2:List (PC P G):=o1++[pb hb1,pk,pk]
 refine Ae (fun hb2=>?_) fun hb2=>?_
 let o3:List (PC P G):=o2++[pb hb2,pk,pk]
 refine Ae (fun hb3=>?_) fun hb3=>?_
 refine Ae (fun hb4=>?_) fun hb4=>?_
 refine Ae (fun hb5=>?_) fun hb5=>?_
 refine Ae (fun hb6=>?_) fun hb6=>?_
 refine Ae (fun hb7=>?_) fun hb7=>?_
 rintro ⟨⟩
 exact rS (Aa 300 (o3++[pb hb3,pb hb4,pb hb5,pk,pk,pb hb6,pb hb7,pk,pk])) (by kernel_rfl)
 rintro ⟨⟩
 exact rS (Aa 300 (o3++[pb hb3,pb hb4,pb hb5,pk,pk,pb hb6,pb hb7])) (by kernel_rfl)
 rintro ⟨⟩
 exact rS (Aa 300 (o3++[pb hb3,pb hb4,pb hb5,pk,pk,pb hb6])) (by kernel_rfl)
 rintro ⟨⟩
 exact rS (Aa 300 (o3++[pb hb3,pb hb4,pb hb5])) (by kernel_rfl)
 rintro ⟨⟩
 exact rS (Aa 300 (o3++[pb hb3,pb hb4])) (by kernel_rfl)
 rintro ⟨⟩
 exact rS (Aa 300 (o3++[pb hb3])) (by kernel_rfl)
 rintro ⟨⟩
 exact rS (Aa 300 (o2++[pb hb2])) (by kernel_rfl)
 rintro ⟨⟩
 exact rS (Aa 300 (o1++[pb hb1])) (by kernel_rfl)
noncomputable def Eb  (n:Nd):Option Bool:=cond (BL n.name.data.toList ByteArray.empty.data.toList) (cond (BL n.unit.data.toList ByteArray.empty.data.toList) (cond (Br n.n 0) (cond (Br n.fr 0) (cond (Br n.to 0) (cond (Br n.known 0) (some true) (some false)) (some false)) (some false)) (some false)) (some false)) (some false)
theorem K8   {n:Nd} {yR:Bool} (h:Eb  n=some yR):Pure P G 66 [.agg (A9 n),.sc (.int .i64 48)] (.sc (.bool yR)):=by
 unfold Eb at h
 refine BH Hd.mixed Hd.Ac (AG Tryz.func66 Z2 ?_) (Bl (Am.F1 n) (Bl rfl rfl)) rfl
 revert h
 refine Ae (fun hb1=>?_) fun hb1=>?_
 let o1:List (PC P G):=[pk,pk,pb hb1,pk,pk]
 refine Ae (fun hb2=>?_) fun hb2=>?_
 refine Ae (fun hb3=>?_) fun hb3=>?_
 let o2:List (PC P G):=o1++[pb hb2,pk,pk,pb hb3,pk,pk]
 refine Ae (fun hb4=>?_) fun hb4=>?_
 refine Ae (fun hb5=>?_) fun hb5=>?_
 refine Ae (fun hb6=>?_) fun hb6=>?_
 rintro ⟨⟩
 exact rS (Aa 300 (o2++[pb hb4,pb hb5,pb hb6,pk,pk,pk,pk])) (by kernel_rfl)
 rintro ⟨⟩
 exact rS (Aa 300 (o2++[pb hb4,pb hb5,pb hb6])) (by kernel_rfl)
 rintro ⟨⟩
 exact rS (Aa 300 (o2++[pb hb4,pb hb5])) (by kernel_rfl)
 rintro ⟨⟩
 exact rS (Aa 300 (o2++[pb hb4])) (by kernel_rfl)
 rintro ⟨⟩
 exact rS (Aa 300 (o1++[pb hb2,pk,pk,pb hb3])) (by kernel_rfl)
 rintro ⟨⟩
 exact rS (Aa 300 (o1++[pb hb2])) (by kernel_rfl)
 rintro ⟨⟩
 exact rS (Aa 300 [pk,pk,pb hb1]) (by kernel_rfl)
noncomputable def CN  (n:Nd):Option Bool:=cond (Br n.n 0) (cond (Br n.fr 0) (cond (Br n.to 0) (cond (Br n.known 0) (cond (Br n.tab.den 0) (cond (Br ((n.tab.ps.length:Nat):Int) 0) (cond (Br ((n.kids.length:Nat):Int) 0) (some true) (some false)) (some false)) (some false)) (some false)) (some false)) (some false)) (some false)
theorem B0   {n:Nd} {yR:Bool} (h:CN  n=some yR):Pure P G 66 [.agg (A9 n),.sc (.int .i64 3)] (.sc (.bool yR)):=by
 unfold CN at h
 refine BH Hd.mixed Hd.Ac (AG Tryz.func66 Z2 ?_) (Bl (Am.F1 n) (Bl rfl rfl)) rfl
 revert h
 let o1:List (PC P G):=[pk,pk,pk,pk,pk,pk]
 refine Ae (fun hb1=>?_) fun hb1=>?_
 let o2:List (PC P G):=o1++[pb hb1,pk,pk]
 refine Ae (fun hb2=>?_) fun hb2=>?_
 refine Ae (fun hb3=>?_) fun hb3=>?_
 refine Ae (fun hb4=>?_) fun hb4=>?_
 let o3:List (PC P G):=o2++[pb hb2,pb hb3,pb hb4,pk,pk]
 refine Ae (fun hb5=>?_) fun hb5=>?_
 refine Ae (fun hb6=>?_) fun hb6=>?_
 refine Ae (fun hb7=>?_) fun hb7=>?_
 rintro ⟨⟩
 exact rS (Aa 300 (o3++[pb hb5,pb hb6,pk,pk,pb hb7])) (by kernel_rfl)
 rintro ⟨⟩
 exact rS (Aa 300 (o3++[pb hb5,pb hb6,pk,pk,pb hb7])) (by kernel_rfl)
 rintro ⟨⟩
 exact rS (Aa 300 (o3++[pb hb5,pb hb6])) (by kernel_rfl)
 rintro ⟨⟩
 exact rS (Aa 300 (o3++[pb hb5])) (by kernel_rfl)
 rintro ⟨⟩
 exact rS (Aa 300 (o2++[pb hb2,pb hb3,pb hb4])) (by kernel_rfl)
 rintro ⟨⟩
 exact rS (Aa 300 (o2++[pb hb2,pb hb3])) (by kernel_rfl)
 rintro ⟨⟩
 exact rS (Aa 300 (o2++[pb hb2])) (by kernel_rfl)
 rintro ⟨⟩
 exact rS (Aa 300 (o1++[pb hb1])) (by kernel_rfl)
noncomputable def CP  (n:Nd):Option Bool:=cond (Br n.fr 0) (cond (Br n.to 0) (cond (Br n.known 0) (cond (Br n.tab.den 0) (cond (Br ((n.tab.ps.length:Nat):Int) 0) (cond (Br ((n.kids.length:Nat):Int) 0) (some true) (some false)) (some false)) (some false)) (some false)) (some false)) (some false)
theorem Cu   {n:Nd} {yR:Bool} (h:CP  n=some yR):Pure P G 66 [.agg (A9 n),.sc (.int .i64 7)] (.sc (.bool yR)):=by
 unfold CP at h
 refine BH Hd.mixed Hd.Ac (AG Tryz.func66 Z2 ?_) (Bl (Am.F1 n) (Bl rfl rfl)) rfl
 revert h
 let o1:List (PC P G):=[pk,pk,pk,pk,pk,pk,pk,pk]
 refine Ae (fun hb1=>?_) fun hb1=>?_
 refine Ae (fun hb2=>?_) fun hb2=>?_
 refine Ae (fun hb3=>?_) fun hb3=>?_
 let o2:List (PC P G):=o1++[pb hb1,pb hb2,pb hb3,pk,pk]
 refine Ae (fun hb4=>?_) fun hb4=>?_
 refine Ae (fun hb5=>?_) fun hb5=>?_
 refine Ae (fun hb6=>?_) fun hb6=>?_
 rintro ⟨⟩
 exact rS (Aa 300 (o2++[pb hb4,pb hb5,pk,pk,pb hb6])) (by kernel_rfl)
 rintro ⟨⟩
 exact rS (Aa 300 (o2++[pb hb4,pb hb5,pk,pk,pb hb6])) (by kernel_rfl)
 rintro ⟨⟩
 exact rS (Aa 300 (o2++[pb hb4,pb hb5])) (by kernel_rfl)
 rintro ⟨⟩
 exact rS (Aa 300 (o2++[pb hb4])) (by kernel_rfl)
 rintro ⟨⟩
 exact rS (Aa 300 (o1++[pb hb1,pb hb2,pb hb3])) (by kernel_rfl)
 rintro ⟨⟩
 exact rS (Aa 300 (o1++[pb hb1,pb hb2])) (by kernel_rfl)
 rintro ⟨⟩
 exact rS (Aa 300 (o1++[pb hb1])) (by kernel_rfl)
noncomputable def Cw  (n:Nd):Option Bool:=cond (BL n.unit.data.toList ByteArray.empty.data.toList) (cond (Br n.fr 0) (cond (Br n.to 0) (cond (Br n.known 0) (cond (Br n.tab.den 0) (cond (Br ((n.tab.ps.length:Nat):Int) 0) (some true) (some false)) (some false)) (some false)) (some false)) (some false)) (some false)
theorem DZ   {n:Nd} {yR:Bool} (h:Cw  n=some yR):Pure P G 66 [.agg (A9 n),.sc (.int .i64 37)] (.sc (.bool yR)):=by
 unfold Cw at h
 refine BH Hd.mixed Hd.Ac (AG Tryz.func66 Z2 ?_) (Bl (Am.F1 n) (Bl rfl rfl)) rfl
 revert h
 let o1:List (PC P G):=[pk,pk,pk,pk]
 refine Ae (fun hb1=>?_) fun hb1=>?_
 let o2:List (PC P G):=o1++[pb hb1,pk,pk,pk,pk]
 refine Ae (fun hb2=>?_) fun hb2=>?_
 refine Ae (fun hb3=>?_) fun hb3=>?_
 refine Ae (fun hb4=>?_) fun hb4=>?_
 refine Ae (fun hb5=>?_) fun hb5=>?_
 refine Ae (fun hb6=>?_) fun hb6=>?_
 rintro ⟨⟩
 exact rS (Aa 300 (o2++[pb hb2,pb hb3,pb hb4,pk,pk,pb hb5,pb hb6,pk,pk])) (by kernel_rfl)
 rintro ⟨⟩
 exact rS (Aa 300 (o2++[pb hb2,pb hb3,pb hb4,pk,pk,pb hb5,pb hb6])) (by kernel_rfl)
 rintro ⟨⟩
 exact rS (Aa 300 (o2++[pb hb2,pb hb3,pb hb4,pk,pk,pb hb5])) (by kernel_rfl)
 rintro ⟨⟩
 exact rS (Aa 300 (o2++[pb hb2,pb hb3,pb hb4])) (by kernel_rfl)
 rintro ⟨⟩
 exact rS (Aa 300 (o2++[pb hb2,pb hb3])) (by kernel_rfl)
 rintro ⟨⟩
 exact rS (Aa 300 (o2++[pb hb2])) (by kernel_rfl)
 rintro ⟨⟩
 exact rS (Aa 300 (o1++[pb hb1])) (by kernel_rfl)
noncomputable def Ea  (n:Nd):Option Bool:=cond (BL n.name.data.toList ByteArray.empty.data.toList) (cond (BL n.unit.data.toList ByteArray.empty.data.toList) (cond (Br n.tab.den 0) (cond (Br ((n.tab.ps.length:Nat):Int) 0) (cond (Br ((n.kids.length:Nat):Int) 0) (some true) (some false)) (some false)) (some false)) (some false)) (some false)
theorem K7   {n:Nd} {yR:Bool} (h:Ea  n=some yR):Pure P G 66 [.agg (A9 n),.sc (.int .i64 12)] (.sc (.bool yR)):=by
 unfold Ea at h
 refine BH Hd.mixed Hd.Ac (AG Tryz.func66 Z2 ?_) (Bl (Am.F1 n) (Bl rfl rfl)) rfl
 revert h
 refine Ae (fun hb1=>?_) fun hb1=>?_
 let o1:List (PC P G):=[pk,pk,pb hb1,pk,pk]
 refine Ae (fun hb2=>?_) fun hb2=>?_
 let o2:List (PC P G):=o1++[pb hb2,pk,pk,pk,pk,pk,pk]
 refine Ae (fun hb3=>?_) fun hb3=>?_
 refine Ae (fun hb4=>?_) fun hb4=>?_
 refine Ae (fun hb5=>?_) fun hb5=>?_
 rintro ⟨⟩
 exact rS (Aa 300 (o2++[pb hb3,pb hb4,pk,pk,pb hb5])) (by kernel_rfl)
 rintro ⟨⟩
 exact rS (Aa 300 (o2++[pb hb3,pb hb4,pk,pk,pb hb5])) (by kernel_rfl)
 rintro ⟨⟩
 exact rS (Aa 300 (o2++[pb hb3,pb hb4])) (by kernel_rfl)
 rintro ⟨⟩
 exact rS (Aa 300 (o2++[pb hb3])) (by kernel_rfl)
 rintro ⟨⟩
 exact rS (Aa 300 (o1++[pb hb2])) (by kernel_rfl)
 rintro ⟨⟩
 exact rS (Aa 300 [pk,pk,pb hb1]) (by kernel_rfl)
noncomputable def B91:Code:=A4 Tryz.f91
theorem b91:Tryz.f91.body=some B91:=by kernel_rfl
noncomputable def AQ  (n:Int) (low:Int) (high:Int):Option Bool:=cond (K2 low n) (cond (K2 n high) (some true) (some false)) (some false)
theorem Au   {n:Int} {low:Int} {high:Int} {yR:Bool} (h:AQ  n low high=some yR):Pure P G 91 [.sc (.int .i64 n),.sc (.int .i64 low),.sc (.int .i64 high)] (.sc (.bool yR)):=by
 unfold AQ at h
 refine BH Hd.mixed Hd.Ac (AG Tryz.func91 b91 ?_) (Bl rfl (Bl rfl (Bl rfl rfl))) rfl
 revert h
 refine Ae (fun hb1=>?_) fun hb1=>?_
 refine Ae (fun hb2=>?_) fun hb2=>?_
 rintro ⟨⟩
 exact rS (Aa 300 [pb hb1,pb hb2]) (by kernel_rfl)
 rintro ⟨⟩
 exact rS (Aa 300 [pb hb1,pb hb2]) (by kernel_rfl)
 rintro ⟨⟩
 exact rS (Aa 300 [pb hb1]) (by kernel_rfl)
noncomputable def uV:Code:=A4 Tryz.f117
theorem vQ:Tryz.f117.body=some uV:=by kernel_rfl
noncomputable def DW  (c:Int):Option Bool:=cond (K2 65 c) (cond (K2 c 90) (some true) (some false)) (some false)
theorem Ff   {c:Int} {yR:Bool} (h:DW  c=some yR):Pure P G 117 [.sc (.int .u8 c)] (.sc (.bool yR)):=by
 unfold DW at h
 refine BH Hd.mixed Hd.Ac (AG Tryz.func117 vQ ?_) (Bl rfl rfl) rfl
 revert h
 refine Ae (fun hb1=>?_) fun hb1=>?_
 refine Ae (fun hb2=>?_) fun hb2=>?_
 rintro ⟨⟩
 exact rS (Aa 300 [pb hb1,pb hb2]) (by kernel_rfl)
 rintro ⟨⟩
 exact rS (Aa 300 [pb hb1,pb hb2]) (by kernel_rfl)
 rintro ⟨⟩
 exact rS (Aa 300 [pb hb1]) (by kernel_rfl)
noncomputable def B92:Code:=A4 Tryz.f92
theorem b92:Tryz.f92.body=some B92:=by kernel_rfl
noncomputable def EW  (s:ByteArray):Option Bool:=cond (Br ((s.data.toList.length:Nat):Int) 3) ((s.data.toList[0]?).bind fun c1=>(DW ((c1.toNat:Nat):Int)).bind fun y2=>cond y2 ((s.data.toList[1]?).bind fun c3=>(DW ((c3.toNat:Nat):Int)).bind fun y4=>cond y4 ((s.data.toList[2]?).bind fun c5=>(DW ((c5.toNat:Nat):Int)).bind fun y6=>some y6) (some false)) (some false)) (some false)
theorem Gi   {s:ByteArray} {yR:Bool} (h:EW  s=some yR):Pure P G 92 [.sc (.string s)] (.sc (.bool yR)):=by
 unfold EW at h
 refine BH Hd.mixed Hd.Ac (AG Tryz.func92 b92 ?_) (Bl rfl rfl) rfl
 revert h
 refine Ae (fun hb1=>?_) fun hb1=>?_
 refine Aj fun c1 hc1=>?_
 refine Aj fun y2 hy2=>?_
 let o1:List (PC P G):=[pb hb1,Q8 (JX hc1),Ak (Ff hy2)]
 refine Ae (fun hv=>?_) fun hv=>?_
 subst hv
 refine Aj fun c3 hc3=>?_
 refine Aj fun y4 hy4=>?_
 refine Ae (fun hv=>?_) fun hv=>?_
 subst hv
 refine Aj fun c5 hc5=>?_
 refine Aj fun y6 hy6=>?_
 intro h
 have hE:=Option.some.inj h
 subst hE
 exact rS (Aa 300 (o1++[Q8 (JX hc3),Ak (Ff hy4),Q8 (JX hc5),Ak (Ff hy6)])) (by kernel_rfl)
 subst hv
 rintro ⟨⟩
 exact rS (Aa 300 (o1++[Q8 (JX hc3),Ak (Ff hy4)])) (by kernel_rfl)
 subst hv
 rintro ⟨⟩
 exact rS (Aa 300 o1) (by kernel_rfl)
 rintro ⟨⟩
 exact rS (Aa 300 [pb hb1]) (by kernel_rfl)
noncomputable def xG:Code:=A4 Tryz.f94
theorem b94:Tryz.f94.body=some xG:=by kernel_rfl
noncomputable def IW  (s:ByteArray) (i0:Nat) (e0:ByteArray) :Option (Lp Unit Unit Bool):=cond (BL e0.data.toList s.data.toList) (some (.rt true)) (some (.nx ()))
noncomputable def Fc  (l:(List ByteArray)) (s:ByteArray):Option Bool:=(Gv l.length (AT (fun i y x=>IW  s i y ) (fun x=>()) (l.drop 0) 0 ())).bind (GF (fun (_:Unit)=>some false) (fun v=>some v))
theorem FQ   {l:(List ByteArray)} {s:ByteArray} {yR:Bool} (h:Fc  l s=some yR):Pure P G 94 [.sl .lost l.length (rows Kz l),.sc (.string s)] (.sc (.bool yR)):=by
 unfold Fc at h
 refine BH Hd.mixed Hd.Ac (AG Tryz.func94 b94 ?_) (Bl (A8.EL l) (Bl rfl rfl)) rfl
 revert h
 refine DJ (fun Q v=>DI P Tryz.f94 0 Q (.sc (.bool v))) (fun i0 (_:Unit) (j0:List Value)=>fr 18 [(0,.sl .lost l.length (rows Kz l)),(1,.sc (.string s)),(5,.sc (.int .i64 ((i0:Nat):Int)))] [4,9,17] j0) (fun (_:Unit)=>⟨[],0,[],0⟩) (fun (_:Unit) (jx:List Value)=>fr 18 [] [4,9,17] jx) (fun (_:Unit)=>⟨[],0,[],0⟩) [.bool false] (DG [] 0 (sb xG 52) [.code (sb xG 7)] (Aa 300 []) (by kernel_rfl)) ?_ ?_ ?_ (fun v h=>by cases h;exact .outer .body)
 rintro i0 ⟨⟩ j0 hge hq
 exact BV (Aa 300 [pb (II hge)]) (by kernel_rfl) (hq (js 3 j0 [(1,.bool false)]))
 rintro i0 e0 ⟨⟩ j0 r he0 hi0 mi0 k
 show IW  s i0 e0 =some r→_
 unfold IW
 refine Ae (fun hb1=>?_) fun hb1=>?_
 rintro ⟨⟩
 exact AA _ _ (Aa 300 [pb (F5 hi0),CL (sJ .lost he0),pb hb1]) (by kernel_rfl) (.GX k) .sc
 rintro ⟨⟩
 exact C9 (Aa 300 [pb (F5 hi0),CL (sJ .lost he0),pb hb1,pi mi0]) (by kernel_rfl) (k [(jv j0 0),.bool true,.bool false])
 rintro ⟨⟩ jx_1
 intro h
 have hE:=Option.some.inj h
 subst hE
 exact AA _ _ (BU 300 []) (by kernel_rfl) .body .sc
noncomputable def vC:Code:=A4 Tryz.f118
theorem wW:Tryz.f118.body=some vC:=by kernel_rfl
noncomputable def ED  (c:Int):Option Bool:=cond (K2 97 c) (cond (K2 c 122) (some true) (some false)) (some false)
theorem Ju   {c:Int} {yR:Bool} (h:ED  c=some yR):Pure P G 118 [.sc (.int .u8 c)] (.sc (.bool yR)):=by
 unfold ED at h
 refine BH Hd.mixed Hd.Ac (AG Tryz.func118 wW ?_) (Bl rfl rfl) rfl
 revert h
 refine Ae (fun hb1=>?_) fun hb1=>?_
 refine Ae (fun hb2=>?_) fun hb2=>?_
 rintro ⟨⟩
 exact rS (Aa 300 [pb hb1,pb hb2]) (by kernel_rfl)
 rintro ⟨⟩
 exact rS (Aa 300 [pb hb1,pb hb2]) (by kernel_rfl)
 rintro ⟨⟩
 exact rS (Aa 300 [pb hb1]) (by kernel_rfl)
noncomputable def vX:Code:=A4 Tryz.f119
theorem wO:Tryz.f119.body=some vX:=by kernel_rfl
noncomputable def H5  :Option (List ByteArray):=some [Q5,QS,Jj,V4,QE,Q0,oQ,Ni,QO,KN,KY,A3,By,Cm,WS,Qe,KW,M0,QY,Sl,IK,V7,Tl,QU,Np,Wm,EA,NY,Ht,JZ,GP,D8,MW]
theorem JY    {yR:(List ByteArray)} (h:H5  =some yR):Pure P G 119 [] (.sl .lost yR.length (rows Kz yR)):=by
 unfold H5 at h
 refine BH Hd.mixed Hd.Ac (AG Tryz.func119 wO ?_) rfl (A8.EL yR)
 revert h
 intro h
 have hE:=Option.some.inj h
 subst hE
 exact AA (v:=.sl .full 33 (.sc (.string Q5)::.sc (.string QS)::.sc (.string Jj)::.sc (.string V4)::.sc (.string QE)::.sc (.string Q0)::.sc (.string oQ)::.sc (.string Ni)::.sc (.string QO)::.sc (.string KN)::.sc (.string KY)::.sc (.string A3)::.sc (.string By)::.sc (.string Cm)::.sc (.string WS)::.sc (.string Qe)::.sc (.string KW)::.sc (.string M0)::.sc (.string QY)::.sc (.string Sl)::.sc (.string IK)::.sc (.string V7)::.sc (.string Tl)::.sc (.string QU)::.sc (.string Np)::.sc (.string Wm)::.sc (.string EA)::.sc (.string NY)::.sc (.string Ht)::.sc (.string JZ)::.sc (.string GP)::.sc (.string D8)::.sc (.string MW)::[])) _ _ (Aa 300 []) (by kernel_rfl) .body (.wn (.d (.r (.r (.r (.r (.r (.r (.r (.r (.r (.r (.r (.r (.r (.r (.r (.r (.r (.r (.r (.r (.r (.r (.r (.r (.r (.r (.r (.r (.r (.r (.r (.r (.r .nil))))))))))))))))))))))))))))))))) (A8.eq [Q5,QS,Jj,V4,QE,Q0,oQ,Ni,QO,KN,KY,A3,By,Cm,WS,Qe,KW,M0,QY,Sl,IK,V7,Tl,QU,Np,Wm,EA,NY,Ht,JZ,GP,D8,MW]).symm .nil) (A8.EL [Q5,QS,Jj,V4,QE,Q0,oQ,Ni,QO,KN,KY,A3,By,Cm,WS,Qe,KW,M0,QY,Sl,IK,V7,Tl,QU,Np,Wm,EA,NY,Ht,JZ,GP,D8,MW]))
noncomputable def wS:Code:=A4 Tryz.f120
theorem wN:Tryz.f120.body=some wS:=by kernel_rfl
noncomputable def FM  (c:Int):Option Bool:=cond (K2 48 c) (cond (K2 c 57) (some true) (some false)) (some false)
theorem MZ   {c:Int} {yR:Bool} (h:FM  c=some yR):Pure P G 120 [.sc (.int .u8 c)] (.sc (.bool yR)):=by
 unfold FM at h
 refine BH Hd.mixed Hd.Ac (AG Tryz.func120 wN ?_) (Bl rfl rfl) rfl
 revert h
 refine Ae (fun hb1=>?_) fun hb1=>?_
 refine Ae (fun hb2=>?_) fun hb2=>?_
 rintro ⟨⟩
 exact rS (Aa 300 [pb hb1,pb hb2]) (by kernel_rfl)
 rintro ⟨⟩
 exact rS (Aa 300 [pb hb1,pb hb2]) (by kernel_rfl)
 rintro ⟨⟩
 exact rS (Aa 300 [pb hb1]) (by kernel_rfl)
noncomputable def uT:Code:=A4 Tryz.f93
theorem b93:Tryz.f93.body=some uT:=by kernel_rfl
noncomputable def Ha   (i0:Nat) (e0:UInt8) :Option (Lp Unit Unit Bool):=(ED ((e0.toNat:Nat):Int)).bind fun y5=>cond y5 (some (.nx ())) ((FM ((e0.toNat:Nat):Int)).bind fun y6=>cond y6 (some (.nx ())) (cond (Br ((e0.toNat:Nat):Int) 95) (some (.nx ())) (some (.rt false))))
noncomputable def Fh  (s:ByteArray):Option Bool:=cond (FV ((s.data.toList.length:Nat):Int) 1) (some false) (cond (FV 16 ((s.data.toList.length:Nat):Int)) (some false) ((s.data.toList[0]?).bind fun c1=>(ED ((c1.toNat:Nat):Int)).bind fun y2=>cond y2 ((H5).bind fun y3=>(Fc y3 s).bind fun y4=>cond y4 (some false) ((Gv s.data.toList.length (AT (fun i y x=>Ha   i y ) (fun x=>()) (s.data.toList.drop 0) 0 ())).bind (GF (fun (_:Unit)=>some true) (fun v=>some v)))) (some false)))
theorem J5   {s:ByteArray} {yR:Bool} (h:Fh  s=some yR):Pure P G 93 [.sc (.string s)] (.sc (.bool yR)):=by
 unfold Fh at h
 refine BH Hd.mixed Hd.Ac (AG Tryz.func93 b93 ?_) (Bl rfl rfl) rfl
 revert h
 refine Ae (fun hb1=>?_) fun hb1=>?_
 rintro ⟨⟩
 exact rS (Aa 300 [pb hb1]) (by kernel_rfl)
 refine Ae (fun hb2=>?_) fun hb2=>?_
 rintro ⟨⟩
 exact rS (Aa 300 [pb hb1,pb hb2]) (by kernel_rfl)
 refine Aj fun c1 hc1=>?_
 refine Aj fun y2 hy2=>?_
 let o1:List (PC P G):=[pb hb1,pb hb2,Q8 (JX hc1),Ak (Ju hy2)]
 refine Ae (fun hv=>?_) fun hv=>?_
 subst hv
 refine Aj fun y3 hy3=>?_
 refine Aj fun y4 hy4=>?_
 refine Ae (fun hv=>?_) fun hv=>?_
 subst hv
 rintro ⟨⟩
 exact rS (Aa 300 (o1++[Ak (JY hy3),Ak (FQ hy4)])) (by kernel_rfl)
 subst hv
 refine DJ (fun Q v=>DI P Tryz.f93 0 Q (.sc (.bool v))) (fun i0 (_:Unit) (j0:List Value)=>fr 47 [(0,.sc (.string s)),(3,.sc (.int .i64 ((i0:Nat):Int)))] [2,6,7,10,11,12,15,16,17,18,21,22,26,32,33,34,38,39,40,41,45,46] j0) (fun (_:Unit)=>⟨[],0,[],0⟩) (fun (_:Unit) (jx:List Value)=>fr 47 [] [2,6,7,10,11,12,15,16,17,18,21,22,26,32,33,34,38,39,40,41,45,46] jx) (fun (_:Unit)=>⟨[],0,[],0⟩) [.bool false,.bool false,.bool false,.bool false,.bool false,.bool false,.bool true,.bool false,.bool false,.bool false,.bool false,.bool false] (DG [] 0 (sb uT 116) [.code (sb uT 15)] (Aa 300 (o1++[Ak (JY hy3),Ak (FQ hy4)])) (by kernel_rfl)) ?_ ?_ ?_ (fun v h=>by cases h;exact .outer .body)
 rintro i0 ⟨⟩ j0 hge hq
 exact BV (Aa 300 [pb (II hge)]) (by kernel_rfl) (hq (js 22 j0 [(12,.bool false)]))
 rintro i0 e0 ⟨⟩ j0 r he0 hi0 mi0 k
 show Ha   i0 e0 =some r→_
 unfold Ha
 refine Aj fun y5 hy5=>?_
 let o2:List (PC P G):=[pb (F5 hi0),Q8 (JX he0),Ak (Ju hy5)]
 refine Ae (fun hv=>?_) fun hv=>?_
 subst hv
 rintro ⟨⟩
 exact C9 (Aa 300 (o2++[pi mi0])) (by kernel_rfl) (k (js 22 j0 [(12,.bool true),(13,.bool true),(14,.bool false),(15,.bool false),(16,undef),(17,undef),(18,.bool false),(19,.bool false),(20,undef),(21,.bool false)]))
 subst hv
 refine Aj fun y6 hy6=>?_
 let o3:List (PC P G):=o2++[Q8 (JX he0),Ak (MZ hy6)]
 refine Ae (fun hv=>?_) fun hv=>?_
 subst hv
 rintro ⟨⟩
 exact C9 (Aa 300 (o3++[pi mi0])) (by kernel_rfl) (k (js 22 j0 [(12,.bool true),(13,.bool false),(14,.bool true),(15,.bool true),(16,.bool true),(17,.bool false),(18,.bool false),(19,.bool false),(20,undef),(21,.bool false)]))
 subst hv
 refine Ae (fun hb3=>?_) fun hb3=>?_
 rintro ⟨⟩
 exact C9 (Aa 300 (o3++[Q8 (JX he0),pn hb3,pi mi0])) (by kernel_rfl) (k (js 22 j0 [(12,.bool true),(13,.bool false),(14,.bool true),(15,.bool true),(16,.bool false),(17,.bool true),(18,.bool true),(19,.bool true),(20,.bool false),(21,.bool false)]))
 rintro ⟨⟩
 exact AA _ _ (Aa 300 (o3++[Q8 (JX he0),pn hb3])) (by kernel_rfl) (.GX k) .sc
 rintro ⟨⟩ jx_7
 intro h
 have hE:=Option.some.inj h
 subst hE
 exact AA _ _ (BU 300 []) (by kernel_rfl) .body .sc
 subst hv
 rintro ⟨⟩
 exact rS (Aa 300 o1) (by kernel_rfl)
noncomputable def B95:Code:=A4 Tryz.f95
theorem b95:Tryz.f95.body=some B95:=by kernel_rfl
noncomputable def D3  (n:Nd):Option Bool:=cond (Br n.kind 11) ((DK n).bind fun y1=>cond y1 (cond (BL n.unit.data.toList By.data.toList) ((AQ n.n 1 1000000).bind fun y2=>some y2) (some false)) (some false)) (some false)
theorem Gh   {n:Nd} {yR:Bool} (h:D3  n=some yR):Pure P G 95 [.agg (A9 n)] (.sc (.bool yR)):=by
 unfold D3 at h
 refine BH Hd.mixed Hd.Ac (AG Tryz.func95 b95 ?_) (Bl (Am.F1 n) rfl) rfl
 revert h
 refine Ae (fun hb1=>?_) fun hb1=>?_
 refine Aj fun y1 hy1=>?_
 let o1:List (PC P G):=[pb hb1,Ak (ID hy1)]
 refine Ae (fun hv=>?_) fun hv=>?_
 subst hv
 refine Ae (fun hb2=>?_) fun hb2=>?_
 refine Aj fun y2 hy2=>?_
 intro h
 have hE:=Option.some.inj h
 subst hE
 exact rS (Aa 300 (o1++[pb hb2,Ak (Au hy2)])) (by kernel_rfl)
 rintro ⟨⟩
 exact rS (Aa 300 (o1++[pb hb2])) (by kernel_rfl)
 subst hv
 rintro ⟨⟩
 exact rS (Aa 300 o1) (by kernel_rfl)
 rintro ⟨⟩
 exact rS (Aa 300 [pb hb1]) (by kernel_rfl)
noncomputable def uX:Code:=A4 Tryz.f97
theorem b97:Tryz.f97.body=some uX:=by kernel_rfl
noncomputable def Gg  (f:Fn) (i0:Nat) (e0:Pc) :Option (Lp Unit Unit Bool):=(PT e0.att f.den).bind fun z3=>cond (Br z3 0) ((Zw e0.att f.den).bind fun z4=>(AQ z4 (-999999999999) 999999999999).bind fun y5=>cond y5 ((AQ e0.slope (-1000000) 1000000).bind fun y6=>cond y6 (cond (FV 999999999999 e0.fr) (some (.rt false)) (cond (Br ((i0:Nat):Int) 0) (cond (Br e0.fr 0) (some (.nx ())) (some (.rt false))) (cond (FV 0 ((i0:Nat):Int)) ((RZ f.ps (RB ((i0:Nat):Int) 1)).bind fun x7=>cond (K2 e0.fr x7.fr) (some (.rt false)) (some (.nx ()))) (some (.nx ()))))) (some (.rt false))) (some (.rt false))) (some (.rt false))
noncomputable def FJ  (f:Fn):Option Bool:=(AQ f.den 1 1000000).bind fun y1=>cond y1 ((AQ ((f.ps.length:Nat):Int) 1 64).bind fun y2=>cond y2 ((Gv f.ps.length (AT (fun i y x=>Gg  f i y ) (fun x=>()) (f.ps.drop 0) 0 ())).bind (GF (fun (_:Unit)=>some true) (fun v=>some v))) (some false)) (some false)
theorem Ns   {f:Fn} {yR:Bool} (h:FJ  f=some yR):Pure P G 97 [.agg (Xh f)] (.sc (.bool yR)):=by
 unfold FJ at h
 refine BH Hd.mixed Hd.Ac (AG Tryz.func97 b97 ?_) (Bl (OG.F1 f) rfl) rfl
 revert h
 refine Aj fun y1 hy1=>?_
 refine Ae (fun hv=>?_) fun hv=>?_
 subst hv
 refine Aj fun y2 hy2=>?_
 refine Ae (fun hv=>?_) fun hv=>?_
 subst hv
 refine DJ (fun Q v=>DI P Tryz.f97 0 Q (.sc (.bool v))) (fun i0 (_:Unit) (j0:List Value)=>fr 79 [(1,.ptr 0 0),(3,.sc (.int .i64 ((i0:Nat):Int)))] [2,7,8,9,13,14,15,20,33,34,40,41,42,43,46,47,48,49,52,53,54,56,57,60,61,62,63,65,66,76,77,78] j0) (fun (_:Unit)=>⟨[(0,.cells (Xh f))],1,[],0⟩) (fun (_:Unit) (jx:List Value)=>fr 79 [] [2,7,8,9,13,14,15,20,33,34,40,41,42,43,46,47,48,49,52,53,54,56,57,60,61,62,63,65,66,76,77,78] jx) (fun (_:Unit)=>⟨[(0,.cells (Xh f))],1,[],0⟩) [.bool false,.bool true,.bool false,.bool false,.bool true,.bool false,.bool false] (DG [] 0 (sb uX 116) [.code (sb uX 15)] (Aa 300 [Ak (Au hy1),Ak (Au hy2)]) (by kernel_rfl)) ?_ ?_ ?_ (fun v h=>by cases h;exact .outer .body)
 rintro i0 ⟨⟩ j0 hge hq
 exact BV (Aa 300 [pb (II hge)]) (by kernel_rfl) (hq (js 32 j0 [(7,.bool false)]))
 rintro i0 e0 ⟨⟩ j0 r he0 hi0 mi0 k
 show Gg  f i0 e0 =some r→_
 unfold Gg
 refine Aj fun z3 hz3=>?_
 let o1:List (PC P G):=[pb (F5 hi0),CL (SE .lost he0),K1 (RY hz3 (.tmp 29) (.tmp 31))]
 refine Ae (fun hb1=>?_) fun hb1=>?_
 refine Aj fun z4 hz4=>?_
 refine Aj fun y5 hy5=>?_
 let o2:List (PC P G):=o1++[pn hb1,K1 (fG hz4 (.tmp 36) (.tmp 38)),Ak (Au hy5)]
 refine Ae (fun hv=>?_) fun hv=>?_
 subst hv
 refine Aj fun y6 hy6=>?_
 let o3:List (PC P G):=o2++[Ak (Au hy6)]
 refine Ae (fun hv=>?_) fun hv=>?_
 subst hv
 refine Ae (fun hb2=>?_) fun hb2=>?_
 rintro ⟨⟩
 exact AA _ _ (Aa 300 (o3++[pb hb2])) (by kernel_rfl) (.GX k) .sc
 refine Ae (fun hb3=>?_) fun hb3=>?_
 refine Ae (fun hb4=>?_) fun hb4=>?_
 rintro ⟨⟩
 exact B4 Hd.Ac [] [bp (OG.pl f)] (Aa 300 (o3++[pb hb2,pb hb3,pn hb4,pb (B:=FV 0 ((i0:Nat):Int)) (b:=false) (iE (by have:=Gk hb3;omega)),pi mi0])) (by kernel_rfl) (k [(jv j0 0),(jv j0 1),(jv j0 2),(jv j0 3),(jv j0 4),(jv j0 5),(jv j0 6),.bool true,.bool false,.bool false,.bool true,.bool false,.bool false,.bool false,.bool true,.bool false,.bool false,.bool false,.bool false,.bool false,.bool false,.bool true,.bool true,.bool false,.bool false,.bool false,.bool false,.bool false,.bool false,undef,.bool false,.bool false])
 rintro ⟨⟩
 exact AA _ _ (Aa 300 (o3++[pb hb2,pb hb3,pn hb4])) (by kernel_rfl) (.GX k) .sc
 refine Ae (fun hb5=>?_) fun hb5=>?_
 refine Aj fun x7 hx7=>?_
 refine Ae (fun hb6=>?_) fun hb6=>?_
 rintro ⟨⟩
 exact AA _ _ (Aa 300 (o3++[pb hb2,pb hb3,pb hb5,pk,CL (Yn .lost hx7),pb hb6])) (by kernel_rfl) (.GX k) .sc
 rintro ⟨⟩
 exact B4 Hd.Ac [] [bp (OG.pl f)] (Aa 300 (o3++[pb hb2,pb hb3,pb hb5,pk,CL (Yn .lost hx7),pb hb6,pi mi0])) (by kernel_rfl) (k [(jv j0 0),(jv j0 1),(jv j0 2),(jv j0 3),(jv j0 4),(jv j0 5),(jv j0 6),.bool true,.bool false,.bool false,.bool true,.bool false,.bool false,.bool false,.bool true,.bool false,.bool false,.bool false,.bool false,.bool false,.bool false,.bool false,.bool false,undef,.bool false,.bool false,.bool false,.bool true,.bool true,.bool false,.bool false,.bool false])
 rintro ⟨⟩
 exact B4 Hd.Ac [] [bp (OG.pl f)] (Aa 300 (o3++[pb hb2,pb hb3,pb hb5,pi mi0])) (by kernel_rfl) (k [(jv j0 0),(jv j0 1),(jv j0 2),(jv j0 3),(jv j0 4),(jv j0 5),(jv j0 6),.bool true,.bool false,.bool false,.bool true,.bool false,.bool false,.bool false,.bool true,.bool false,.bool false,.bool false,.bool false,.bool false,.bool false,.bool false,.bool false,undef,.bool false,.bool false,.bool false,.bool false,.bool false,undef,.bool false,.bool false])
 subst hv
 rintro ⟨⟩
 exact AA _ _ (Aa 300 o3) (by kernel_rfl) (.GX k) .sc
 subst hv
 rintro ⟨⟩
 exact AA _ _ (Aa 300 o2) (by kernel_rfl) (.GX k) .sc
 rintro ⟨⟩
 exact AA _ _ (Aa 300 (o1++[pn hb1])) (by kernel_rfl) (.GX k) .sc
 rintro ⟨⟩ jx_8
 intro h
 have hE:=Option.some.inj h
 subst hE
 exact AA _ _ (BU 300 []) (by kernel_rfl) .body .sc
 subst hv
 rintro ⟨⟩
 exact rS (Aa 300 [Ak (Au hy1),Ak (Au hy2)]) (by kernel_rfl)
 subst hv
 rintro ⟨⟩
 exact rS (Aa 300 [Ak (Au hy1)]) (by kernel_rfl)
noncomputable def B64:Code:=A4 Tryz.f64
theorem b64:Tryz.f64.body=some B64:=by kernel_rfl
noncomputable def HU (Cb:Nd→Option Bool) (BE:(List Nd)→Option Bool) (n:Nd):Option Bool:=cond (Br n.kind 11) ((DK n).bind fun y1=>cond y1 (cond (BL n.unit.data.toList A3.data.toList) ((AQ n.n 0 1).bind fun y2=>cond y2 ((AQ n.n 0 999999999999).bind fun y3=>cond y3 ((EW n.unit).bind fun y4=>cond y4 (some true) (some true)) (some false)) (some false)) ((AQ n.n 0 999999999999).bind fun y5=>cond y5 ((EW n.unit).bind fun y6=>cond y6 (some true) (cond (BL n.unit.data.toList By.data.toList) (some true) (cond (BL n.unit.data.toList Cm.data.toList) (some true) (some false)))) (some false))) (some false)) (cond (Br n.kind 12) ((DL n).bind fun y7=>cond y7 ((Fh n.name).bind fun y8=>some y8) (some false)) (cond (Br n.kind 13) ((Ez n).bind fun y9=>cond y9 ((AQ n.n 1 1000000).bind fun y10=>some y10) (some false)) (cond (Br n.kind 14) ((DL n).bind fun y11=>cond y11 ((Fc [EA,NY,Ht,JZ] n.name).bind fun y12=>some y12) (some false)) (cond (Br n.kind 15) ((CY n).bind fun y13=>cond y13 (cond (Br ((n.kids.length:Nat):Int) 1) ((n.kids[0]?).bind fun x14=>(Cb x14).bind fun y15=>some y15) (some false)) (some false)) (cond (Br n.kind 16) ((Dv n).bind fun y16=>cond y16 (cond (Br ((n.kids.length:Nat):Int) 2) (cond (BL n.name.data.toList Jm.data.toList) ((n.kids[1]?).bind fun x17=>(D3 x17).bind fun y18=>cond y18 ((Fc [Sl,IK,IF,Is,PQ,Iu,K6,H7,O7,Jm,Tl] n.name).bind fun y19=>cond y19 ((BE n.kids).bind fun y20=>some y20) (some false)) (some false)) ((Fc [Sl,IK,IF,Is,PQ,Iu,K6,H7,O7,Jm,Tl] n.name).bind fun y21=>cond y21 ((BE n.kids).bind fun y22=>some y22) (some false))) (some false)) (some false)) (cond (Br n.kind 17) ((Dv n).bind fun y23=>cond y23 (cond (K2 2 ((n.kids.length:Nat):Int)) (cond (BL n.name.data.toList GP.data.toList) ((BE n.kids).bind fun y24=>some y24) (cond (BL n.name.data.toList D8.data.toList) ((BE n.kids).bind fun y25=>some y25) (some false))) (some false)) (some false)) (cond (Br n.kind 18) ((Eb n).bind fun y26=>cond y26 (cond (Br ((n.kids.length:Nat):Int) 1) ((n.kids[0]?).bind fun x27=>(Cb x27).bind fun y28=>cond y28 ((FJ n.tab).bind fun y29=>some y29) (some false)) (some false)) (some false)) (some false))))))))
theorem N0 (Cb:Nd→Option Bool) (BE:(List Nd)→Option Bool) (EG:∀ {n:Nd} {yR:Bool},Cb n=some yR→Pure P G 64 [.agg (A9 n)] (.sc (.bool yR))) (E5:∀ {l:(List Nd)} {yR:Bool},BE l=some yR→Pure P G 96 [.sl .lost l.length (A7 l)] (.sc (.bool yR))) {n:Nd} {yR:Bool} (h:HU Cb BE n=some yR):Pure P G 64 [.agg (A9 n)] (.sc (.bool yR)):=by
 unfold HU at h
 refine BH Hd.mixed Hd.Ac (AG Tryz.func64 b64 ?_) (Bl (Am.F1 n) rfl) rfl
 revert h
 refine Ae (fun hb1=>?_) fun hb1=>?_
 refine Aj fun y1 hy1=>?_
 let o1:List (PC P G):=[pb hb1,Ak (ID hy1)]
 refine Ae (fun hv=>?_) fun hv=>?_
 subst hv
 refine Ae (fun hb2=>?_) fun hb2=>?_
 refine Aj fun y2 hy2=>?_
 let o2:List (PC P G):=o1++[pb hb2,Ak (Au hy2)]
 refine Ae (fun hv=>?_) fun hv=>?_
 subst hv
 refine Aj fun y3 hy3=>?_
 refine Ae (fun hv=>?_) fun hv=>?_
 subst hv
 refine Aj fun y4 hy4=>?_
 refine Ae (fun hv=>?_) fun hv=>?_
 subst hv
 rintro ⟨⟩
 exact rS (Aa 300 (o2++[Ak (Au hy3),Ak (Gi hy4)])) (by kernel_rfl)
 subst hv
 rintro ⟨⟩
 exact rS (Aa 300 (o2++[Ak (Au hy3),Ak (Gi hy4),pb hb2])) (by kernel_rfl)
 subst hv
 rintro ⟨⟩
 exact rS (Aa 300 (o2++[Ak (Au hy3)])) (by kernel_rfl)
 subst hv
 rintro ⟨⟩
 exact rS (Aa 300 o2) (by kernel_rfl)
 refine Aj fun y5 hy5=>?_
 let o3:List (PC P G):=o1++[pb hb2,Ak (Au hy5)]
 refine Ae (fun hv=>?_) fun hv=>?_
 subst hv
 refine Aj fun y6 hy6=>?_
 let o4:List (PC P G):=o3++[Ak (Gi hy6)]
 refine Ae (fun hv=>?_) fun hv=>?_
 subst hv
 rintro ⟨⟩
 exact rS (Aa 300 o4) (by kernel_rfl)
 subst hv
 refine Ae (fun hb3=>?_) fun hb3=>?_
 rintro ⟨⟩
 exact rS (Aa 300 (o4++[pb hb2,pb hb3])) (by kernel_rfl)
 refine Ae (fun hb4=>?_) fun hb4=>?_
 rintro ⟨⟩
 exact rS (Aa 300 (o4++[pb hb2,pb hb3,pb hb4])) (by kernel_rfl)
 rintro ⟨⟩
 exact rS (Aa 300 (o4++[pb hb2,pb hb3,pb hb4])) (by kernel_rfl)
 subst hv
 rintro ⟨⟩
 exact rS (Aa 300 o3) (by kernel_rfl)
 subst hv
 rintro ⟨⟩
 exact rS (Aa 300 o1) (by kernel_rfl)
 let o5:List (PC P G):=[pb hb1]
 refine Ae (fun hb5=>?_) fun hb5=>?_
 refine Aj fun y7 hy7=>?_
 refine Ae (fun hv=>?_) fun hv=>?_
 subst hv
 refine Aj fun y8 hy8=>?_
 intro h
 have hE:=Option.some.inj h
 subst hE
 exact rS (Aa 300 (o5++[pb hb5,Ak (Ek hy7),Ak (J5 hy8)])) (by kernel_rfl)
 subst hv
 rintro ⟨⟩
 exact rS (Aa 300 (o5++[pb hb5,Ak (Ek hy7)])) (by kernel_rfl)
 let o6:List (PC P G):=o5++[pb hb5]
 refine Ae (fun hb6=>?_) fun hb6=>?_
 refine Aj fun y9 hy9=>?_
 refine Ae (fun hv=>?_) fun hv=>?_
 subst hv
 refine Aj fun y10 hy10=>?_
 intro h
 have hE:=Option.some.inj h
 subst hE
 exact rS (Aa 300 (o6++[pb hb6,Ak (IE hy9),Ak (Au hy10)])) (by kernel_rfl)
 subst hv
 rintro ⟨⟩
 exact rS (Aa 300 (o6++[pb hb6,Ak (IE hy9)])) (by kernel_rfl)
 let o7:List (PC P G):=o6++[pb hb6]
 refine Ae (fun hb7=>?_) fun hb7=>?_
 refine Aj fun y11 hy11=>?_
 refine Ae (fun hv=>?_) fun hv=>?_
 subst hv
 refine Aj fun y12 hy12=>?_
 intro h
 have hE:=Option.some.inj h
 subst hE
 exact rS (Aa 300 (o7++[pb hb7,Ak (Ek hy11),Ev (args:=[.sl .full 4 [.sc (.string EA),.sc (.string NY),.sc (.string Ht),.sc (.string JZ)],.sc (.string n.name)]) (.d (.r (.r (.r (.r .nil)))) (A8.eq [EA,NY,Ht,JZ]).symm (.r .nil)) (FQ hy12)])) (by kernel_rfl)
 subst hv
 rintro ⟨⟩
 exact rS (Aa 300 (o7++[pb hb7,Ak (Ek hy11)])) (by kernel_rfl)
 let o8:List (PC P G):=o7++[pb hb7]
 refine Ae (fun hb8=>?_) fun hb8=>?_
 refine Aj fun y13 hy13=>?_
 let o9:List (PC P G):=o8++[pb hb8,Ak (FA hy13)]
 refine Ae (fun hv=>?_) fun hv=>?_
 subst hv
 refine Ae (fun hb9=>?_) fun hb9=>?_
 refine Aj fun x14 hx14=>?_
 refine Aj fun y15 hy15=>?_
 intro h
 have hE:=Option.some.inj h
 subst hE
 exact rS (Aa 300 (o9++[pb hb9,CL (Bu .lost hx14),Ak (EG hy15)])) (by kernel_rfl)
 rintro ⟨⟩
 exact rS (Aa 300 (o9++[pb hb9])) (by kernel_rfl)
 subst hv
 rintro ⟨⟩
 exact rS (Aa 300 o9) (by kernel_rfl)
 let o10:List (PC P G):=o8++[pb hb8]
 refine Ae (fun hb10=>?_) fun hb10=>?_
 refine Aj fun y16 hy16=>?_
 let o11:List (PC P G):=o10++[pb hb10,Ak (HN hy16)]
 refine Ae (fun hv=>?_) fun hv=>?_
 subst hv
 refine Ae (fun hb11=>?_) fun hb11=>?_
 refine Ae (fun hb12=>?_) fun hb12=>?_
 refine Aj fun x17 hx17=>?_
 refine Aj fun y18 hy18=>?_
 let o12:List (PC P G):=o11++[pn hb11,pb hb12,CL (Bu .lost hx17),Ak (Gh hy18)]
 refine Ae (fun hv=>?_) fun hv=>?_
 subst hv
 refine Aj fun y19 hy19=>?_
 let o13:List (PC P G):=o12++[Ev (args:=[.sl .full 11 [.sc (.string Sl),.sc (.string IK),.sc (.string IF),.sc (.string Is),.sc (.string PQ),.sc (.string Iu),.sc (.string K6),.sc (.string H7),.sc (.string O7),.sc (.string Jm),.sc (.string Tl)],.sc (.string n.name)]) (.d (.r (.r (.r (.r (.r (.r (.r (.r (.r (.r (.r .nil))))))))))) (A8.eq [Sl,IK,IF,Is,PQ,Iu,K6,H7,O7,Jm,Tl]).symm (.r .nil)) (FQ hy19)]
 refine Ae (fun hv=>?_) fun hv=>?_
 subst hv
 refine Aj fun y20 hy20=>?_
 intro h
 have hE:=Option.some.inj h
 subst hE
 exact rS (Aa 300 (o13++[Ak (E5 hy20)])) (by kernel_rfl)
 subst hv
 rintro ⟨⟩
 exact rS (Aa 300 o13) (by kernel_rfl)
 subst hv
 rintro ⟨⟩
 exact rS (Aa 300 o12) (by kernel_rfl)
 refine Aj fun y21 hy21=>?_
 let o14:List (PC P G):=o11++[pn hb11,pb hb12,Ev (args:=[.sl .full 11 [.sc (.string Sl),.sc (.string IK),.sc (.string IF),.sc (.string Is),.sc (.string PQ),.sc (.string Iu),.sc (.string K6),.sc (.string H7),.sc (.string O7),.sc (.string Jm),.sc (.string Tl)],.sc (.string n.name)]) (.d (.r (.r (.r (.r (.r (.r (.r (.r (.r (.r (.r .nil))))))))))) (A8.eq [Sl,IK,IF,Is,PQ,Iu,K6,H7,O7,Jm,Tl]).symm (.r .nil)) (FQ hy21)]
 refine Ae (fun hv=>?_) fun hv=>?_
 subst hv
 refine Aj fun y22 hy22=>?_
 intro h
 have hE:=Option.some.inj h
 subst hE
 exact rS (Aa 300 (o14++[Ak (E5 hy22)])) (by kernel_rfl)
 subst hv
 rintro ⟨⟩
 exact rS (Aa 300 o14) (by kernel_rfl)
 rintro ⟨⟩
 exact rS (Aa 300 (o11++[pn hb11])) (by kernel_rfl)
 subst hv
 rintro ⟨⟩
 exact rS (Aa 300 o11) (by kernel_rfl)
 let o15:List (PC P G):=o10++[pb hb10]
 refine Ae (fun hb13=>?_) fun hb13=>?_
 refine Aj fun y23 hy23=>?_
 let o16:List (PC P G):=o15++[pb hb13,Ak (HN hy23)]
 refine Ae (fun hv=>?_) fun hv=>?_
 subst hv
 refine Ae (fun hb14=>?_) fun hb14=>?_
 refine Ae (fun hb15=>?_) fun hb15=>?_
 refine Aj fun y24 hy24=>?_
 intro h
 have hE:=Option.some.inj h
 subst hE
 exact rS (Aa 300 (o16++[pb hb14,pb hb15,Ak (E5 hy24)])) (by kernel_rfl)
 refine Ae (fun hb16=>?_) fun hb16=>?_
 refine Aj fun y25 hy25=>?_
 intro h
 have hE:=Option.some.inj h
 subst hE
 exact rS (Aa 300 (o16++[pb hb14,pb hb15,pb hb16,Ak (E5 hy25)])) (by kernel_rfl)
 rintro ⟨⟩
 exact rS (Aa 300 (o16++[pb hb14,pb hb15,pb hb16])) (by kernel_rfl)
 rintro ⟨⟩
 exact rS (Aa 300 (o16++[pb hb14])) (by kernel_rfl)
 subst hv
 rintro ⟨⟩
 exact rS (Aa 300 o16) (by kernel_rfl)
 refine Ae (fun hb17=>?_) fun hb17=>?_
 refine Aj fun y26 hy26=>?_
 let o17:List (PC P G):=o15++[pb hb13,pb hb17,Ak (K8 hy26)]
 refine Ae (fun hv=>?_) fun hv=>?_
 subst hv
 refine Ae (fun hb18=>?_) fun hb18=>?_
 refine Aj fun x27 hx27=>?_
 refine Aj fun y28 hy28=>?_
 refine Ae (fun hv=>?_) fun hv=>?_
 subst hv
 refine Aj fun y29 hy29=>?_
 intro h
 have hE:=Option.some.inj h
 subst hE
 exact rS (Aa 300 (o17++[pb hb18,CL (Bu .lost hx27),Ak (EG hy28),Ak (Ns hy29)])) (by kernel_rfl)
 subst hv
 rintro ⟨⟩
 exact rS (Aa 300 (o17++[pb hb18,CL (Bu .lost hx27),Ak (EG hy28)])) (by kernel_rfl)
 rintro ⟨⟩
 exact rS (Aa 300 (o17++[pb hb18])) (by kernel_rfl)
 subst hv
 rintro ⟨⟩
 exact rS (Aa 300 o17) (by kernel_rfl)
 rintro ⟨⟩
 exact rS (Aa 300 (o15++[pb hb13,pb hb17])) (by kernel_rfl)
noncomputable def v8:Code:=A4 Tryz.f96
theorem b96:Tryz.f96.body=some v8:=by kernel_rfl
noncomputable def GD (Cb:Nd→Option Bool) (BE:(List Nd)→Option Bool)  (i0:Nat) (e0:Nd) :Option (Lp Unit Unit Bool):=(Cb e0).bind fun y1=>cond y1 (some (.nx ())) (some (.rt false))
noncomputable def G7 (Cb:Nd→Option Bool) (BE:(List Nd)→Option Bool) (l:(List Nd)):Option Bool:=(Gv l.length (AT (fun i y x=>GD Cb BE  i y ) (fun x=>()) (l.drop 0) 0 ())).bind (GF (fun (_:Unit)=>some true) (fun v=>some v))
theorem Nf (Cb:Nd→Option Bool) (BE:(List Nd)→Option Bool) (EG:∀ {n:Nd} {yR:Bool},Cb n=some yR→Pure P G 64 [.agg (A9 n)] (.sc (.bool yR))) (E5:∀ {l:(List Nd)} {yR:Bool},BE l=some yR→Pure P G 96 [.sl .lost l.length (A7 l)] (.sc (.bool yR))) {l:(List Nd)} {yR:Bool} (h:G7 Cb BE l=some yR):Pure P G 96 [.sl .lost l.length (A7 l)] (.sc (.bool yR)):=by
 unfold G7 at h
 refine BH Hd.mixed Hd.Ac (AG Tryz.func96 b96 ?_) (Bl (Am.EL l) rfl) rfl
 revert h
 refine DJ (fun Q v=>DI P Tryz.f96 0 Q (.sc (.bool v))) (fun i0 (_:Unit) (j0:List Value)=>fr 16 [(0,.sl .lost l.length (A7 l)),(3,.sc (.int .i64 ((i0:Nat):Int)))] [2,7,14,15] j0) (fun (_:Unit)=>⟨[],0,[],0⟩) (fun (_:Unit) (jx:List Value)=>fr 16 [] [2,7,14,15] jx) (fun (_:Unit)=>⟨[],0,[],0⟩) [.bool false] (DG [] 0 (sb v8 52) [.code (sb v8 7)] (Aa 300 []) (by kernel_rfl)) ?_ ?_ ?_ (fun v h=>by cases h;exact .outer .body)
 rintro i0 ⟨⟩ j0 hge hq
 exact BV (Aa 300 [pb (II hge)]) (by kernel_rfl) (hq (js 4 j0 [(1,.bool false)]))
 rintro i0 e0 ⟨⟩ j0 r he0 hi0 mi0 k
 show GD Cb BE  i0 e0 =some r→_
 unfold GD
 refine Aj fun y1 hy1=>?_
 refine Ae (fun hv=>?_) fun hv=>?_
 subst hv
 rintro ⟨⟩
 exact C9 (Aa 300 [pb (F5 hi0),CL (Bu .lost he0),Ak (EG hy1),pi mi0]) (by kernel_rfl) (k [(jv j0 0),.bool true,.bool true,.bool false])
 subst hv
 rintro ⟨⟩
 exact AA _ _ (Aa 300 [pb (F5 hi0),CL (Bu .lost he0),Ak (EG hy1)]) (by kernel_rfl) (.GX k) .sc
 rintro ⟨⟩ jx_2
 intro h
 have hE:=Option.some.inj h
 subst hE
 exact AA _ _ (BU 300 []) (by kernel_rfl) .body .sc
mutual
noncomputable def Cs:Nat→Nd→Option Bool
 | 0,_=>none
 | qn+1,n=>HU (Cs qn) (C1 qn) n
noncomputable def C1:Nat→(List Nd)→Option Bool
 | 0,_=>none
 | qn+1,l=>G7 (Cs qn) (C1 qn) l
end
theorem PM:∀ qn:Nat,(∀ {n:Nd} {yR:Bool},Cs qn n=some yR→Pure P G 64 [.agg (A9 n)] (.sc (.bool yR)))∧(∀ {l:(List Nd)} {yR:Bool},C1 qn l=some yR→Pure P G 96 [.sl .lost l.length (A7 l)] (.sc (.bool yR))):=by
 intro qn
 induction qn with
 | zero=>exact ⟨(fun h=>by simp only [Cs] at h;cases h),(fun h=>by simp only [C1] at h;cases h)⟩
 | succ qn ih=>exact ⟨(fun h=>N0 (Cs qn) (C1 qn) ih.1 ih.2 (by rw [Cs] at h;exact h)),(fun h=>Nf (Cs qn) (C1 qn) ih.1 ih.2 (by rw [C1] at h;exact h))⟩
noncomputable def Fk (n:Nd):Option Bool:=V8 (fun qn=>Cs qn n)
theorem I4 {n:Nd} {yR:Bool} (h:Fk n=some yR):Pure P G 64 [.agg (A9 n)] (.sc (.bool yR)):=by
 obtain ⟨qn,h⟩:=Tu h
 exact (PM qn).1 h
noncomputable def B98:Code:=A4 Tryz.f98
theorem b98:Tryz.f98.body=some B98:=by kernel_rfl
noncomputable def Dq  (n:Nd):Option Bool:=cond (Br n.kind 5) ((Ea n).bind fun y1=>cond y1 ((AQ n.n 0 1000000).bind fun y2=>cond y2 ((AQ n.fr 0 36524).bind fun y3=>cond y3 ((AQ n.to (BK n.fr 1) 36525).bind fun y4=>cond y4 ((AQ n.known 0 36524).bind fun y5=>some y5) (some false)) (some false)) (some false)) (some false)) (some false)
theorem CO   {n:Nd} {yR:Bool} (h:Dq  n=some yR):Pure P G 98 [.agg (A9 n)] (.sc (.bool yR)):=by
 unfold Dq at h
 refine BH Hd.mixed Hd.Ac (AG Tryz.func98 b98 ?_) (Bl (Am.F1 n) rfl) rfl
 revert h
 refine Ae (fun hb1=>?_) fun hb1=>?_
 refine Aj fun y1 hy1=>?_
 let o1:List (PC P G):=[pb hb1,Ak (K7 hy1)]
 refine Ae (fun hv=>?_) fun hv=>?_
 subst hv
 refine Aj fun y2 hy2=>?_
 let o2:List (PC P G):=o1++[Ak (Au hy2)]
 refine Ae (fun hv=>?_) fun hv=>?_
 subst hv
 refine Aj fun y3 hy3=>?_
 refine Ae (fun hv=>?_) fun hv=>?_
 subst hv
 refine Aj fun y4 hy4=>?_
 refine Ae (fun hv=>?_) fun hv=>?_
 subst hv
 refine Aj fun y5 hy5=>?_
 intro h
 have hE:=Option.some.inj h
 subst hE
 exact rS (Aa 300 (o2++[Ak (Au hy3),pk,Ak (Au hy4),Ak (Au hy5)])) (by kernel_rfl)
 subst hv
 rintro ⟨⟩
 exact rS (Aa 300 (o2++[Ak (Au hy3),pk,Ak (Au hy4)])) (by kernel_rfl)
 subst hv
 rintro ⟨⟩
 exact rS (Aa 300 (o2++[Ak (Au hy3)])) (by kernel_rfl)
 subst hv
 rintro ⟨⟩
 exact rS (Aa 300 o2) (by kernel_rfl)
 subst hv
 rintro ⟨⟩
 exact rS (Aa 300 o1) (by kernel_rfl)
 rintro ⟨⟩
 exact rS (Aa 300 [pb hb1]) (by kernel_rfl)
noncomputable def mH:Code:=A4 Tryz.f121
theorem w7:Tryz.f121.body=some mH:=by kernel_rfl
noncomputable def Fp   (i0:Nat) (e0:Nd) :Option (Lp Unit Unit Bool):=(D3 e0).bind fun y1=>cond y1 (some (.nx ())) (some (.rt false))
noncomputable def EB  (l:(List Nd)):Option Bool:=(Gv l.length (AT (fun i y x=>Fp   i y ) (fun x=>()) (l.drop 0) 0 ())).bind (GF (fun (_:Unit)=>cond (FV 0 ((l.length:Nat):Int)) (some true) (some false)) (fun v=>some v))
theorem Lq   {l:(List Nd)} {yR:Bool} (h:EB  l=some yR):Pure P G 121 [.sl .lost l.length (A7 l)] (.sc (.bool yR)):=by
 unfold EB at h
 refine BH Hd.mixed Hd.Ac (AG Tryz.func121 w7 ?_) (Bl (Am.EL l) rfl) rfl
 revert h
 refine DJ (fun Q v=>DI P Tryz.f121 0 Q (.sc (.bool v))) (fun i0 (_:Unit) (j0:List Value)=>fr 19 [(0,.sl .lost l.length (A7 l)),(3,.sc (.int .i64 ((i0:Nat):Int)))] [2,7,14,15,18] j0) (fun (_:Unit)=>⟨[],0,[],0⟩) (fun (_:Unit) (jx:List Value)=>fr 19 [(0,.sl .lost l.length (A7 l))] [2,7,14,15,18] jx) (fun (_:Unit)=>⟨[],0,[],0⟩) [.bool false] (DG [] 0 (sb mH 52) [.code (sb mH 7)] (Aa 300 []) (by kernel_rfl)) ?_ ?_ ?_ (fun v h=>by cases h;exact .outer .body)
 rintro i0 ⟨⟩ j0 hge hq
 exact BV (Aa 300 [pb (II hge)]) (by kernel_rfl) (hq (js 5 j0 [(1,.bool false)]))
 rintro i0 e0 ⟨⟩ j0 r he0 hi0 mi0 k
 show Fp   i0 e0 =some r→_
 unfold Fp
 refine Aj fun y1 hy1=>?_
 refine Ae (fun hv=>?_) fun hv=>?_
 subst hv
 rintro ⟨⟩
 exact C9 (Aa 300 [pb (F5 hi0),CL (Bu .lost he0),Ak (Gh hy1),pi mi0]) (by kernel_rfl) (k [(jv j0 0),.bool true,.bool true,.bool false,(jv j0 4)])
 subst hv
 rintro ⟨⟩
 exact AA _ _ (Aa 300 [pb (F5 hi0),CL (Bu .lost he0),Ak (Gh hy1)]) (by kernel_rfl) (.GX k) .sc
 rintro ⟨⟩ jx_2
 refine Ae (fun hb1=>?_) fun hb1=>?_
 intro h
 have hE:=Option.some.inj h
 subst hE
 exact AA _ _ (BU 300 [pb hb1]) (by kernel_rfl) .body .sc
 intro h
 have hE:=Option.some.inj h
 subst hE
 exact AA _ _ (BU 300 [pb hb1]) (by kernel_rfl) .body .sc
noncomputable def wG:Code:=A4 Tryz.f99
theorem b99:Tryz.f99.body=some wG:=by kernel_rfl
noncomputable def Ca   (i0:Nat) (e0:Nd) (unless3:Int) (amount4:Int):Option (Lp (Int×Int) (Int×Int) Bool):=(CY e0).bind fun y1=>cond y1 (cond (Br e0.kind 6) (cond (Br ((e0.kids.length:Nat):Int) 1) ((e0.kids[0]?).bind fun x2=>(Fk x2).bind fun y3=>cond y3 (some (.nx (unless3,amount4))) (some (.rt false))) (some (.rt false))) (cond (Br e0.kind 8) (cond (Br ((e0.kids.length:Nat):Int) 1) ((e0.kids[0]?).bind fun x4=>(Fk x4).bind fun y5=>cond y5 (some (.nx (unless3,(BK amount4 1)))) (some (.rt false))) (some (.rt false))) (cond (Br e0.kind 7) ((EB e0.kids).bind fun y6=>cond y6 (some (.nx ((BK unless3 1),amount4))) (some (.rt false))) (some (.rt false))))) (some (.rt false))
noncomputable def Cr  (l:(List Nd)):Option Bool:=(Gv l.length (AT (fun i y x=>Ca   i y x.1 x.2) (fun x=>(x.1,x.2)) (l.drop 0) 0 (0,0))).bind (GF (fun ((unless3_7,amount4_7):(Int×Int))=>cond (K2 unless3_7 1) (cond (Br amount4_7 1) (some true) (some false)) (some false)) (fun v=>some v))
theorem Et   {l:(List Nd)} {yR:Bool} (h:Cr  l=some yR):Pure P G 99 [.sl .lost l.length (A7 l)] (.sc (.bool yR)):=by
 unfold Cr at h
 refine BH Hd.mixed Hd.Ac (AG Tryz.func99 b99 ?_) (Bl (Am.EL l) rfl) rfl
 revert h
 refine DJ (fun Q v=>DI P Tryz.f99 0 Q (.sc (.bool v))) (fun i0 ((unless3,amount4):(Int×Int)) (j0:List Value)=>fr 69 [(0,.sl .lost l.length (A7 l)),(3,.sc (.int .i64 unless3)),(4,.sc (.int .i64 amount4)),(5,.sc (.int .i64 ((i0:Nat):Int)))] [2,9,16,17,23,24,25,32,33,41,42,43,49,52,53,61,62,64,65,67,68] j0) (fun ((unless3,amount4):(Int×Int))=>⟨[],0,[],0⟩) (fun ((unless3,amount4):(Int×Int)) (jx:List Value)=>fr 69 [(3,.sc (.int .i64 unless3)),(4,.sc (.int .i64 amount4))] [2,9,16,17,23,24,25,32,33,41,42,43,49,52,53,61,62,64,65,67,68] jx) (fun ((unless3,amount4):(Int×Int))=>⟨[],0,[],0⟩) [.bool false] (DG [] 0 (sb wG 244) [.code (sb wG 31)] (Aa 300 []) (by kernel_rfl)) ?_ ?_ ?_ (fun v h=>by cases h;exact .outer .body)
 rintro i0 ⟨unless3,amount4⟩ j0 hge hq
 exact BV (Aa 300 [pb (II hge)]) (by kernel_rfl) (hq (js 21 j0 [(1,.bool false)]))
 rintro i0 e0 ⟨unless3,amount4⟩ j0 r he0 hi0 mi0 k
 show Ca   i0 e0 unless3 amount4=some r→_
 unfold Ca
 refine Aj fun y1 hy1=>?_
 let o1:List (PC P G):=[pb (F5 hi0),CL (Bu .lost he0),Ak (FA hy1)]
 refine Ae (fun hv=>?_) fun hv=>?_
 subst hv
 let o2:List (PC P G):=o1++[CL (Bu .lost he0)]
 refine Ae (fun hb1=>?_) fun hb1=>?_
 refine Ae (fun hb2=>?_) fun hb2=>?_
 refine Aj fun x2 hx2=>?_
 refine Aj fun y3 hy3=>?_
 let o3:List (PC P G):=o2++[pb hb1,CL (Bu .lost he0),pn hb2,CL (Bu .lost he0),CL (Bu .lost hx2),Ak (I4 hy3)]
 refine Ae (fun hv=>?_) fun hv=>?_
 subst hv
 rintro ⟨⟩
 exact C9 (Aa 300 (o3++[CL (Bu .lost he0),pb (B:=Br e0.kind 8) (b:=false) (by rw [Gk hb1];rfl),pi mi0])) (by kernel_rfl) (k (js 21 j0 [(1,.bool true),(2,.bool true),(3,.bool false),(4,.bool true),(5,.bool true),(7,.bool false),(8,.bool false),(9,.bool true),(10,.bool false),(11,.bool false),(12,.bool false)]))
 subst hv
 rintro ⟨⟩
 exact AA _ _ (Aa 300 o3) (by kernel_rfl) (.GX k) .sc
 rintro ⟨⟩
 exact AA _ _ (Aa 300 (o2++[pb hb1,CL (Bu .lost he0),pn hb2])) (by kernel_rfl) (.GX k) .sc
 refine Ae (fun hb3=>?_) fun hb3=>?_
 refine Ae (fun hb4=>?_) fun hb4=>?_
 refine Aj fun x4 hx4=>?_
 refine Aj fun y5 hy5=>?_
 let o4:List (PC P G):=o2++[pb hb1,pb hb3,CL (Bu .lost he0),pn hb4,CL (Bu .lost he0),CL (Bu .lost hx4),Ak (I4 hy5)]
 refine Ae (fun hv=>?_) fun hv=>?_
 subst hv
 rintro ⟨⟩
 exact C9 (Aa 300 (o4++[CL (Bu .lost he0),pb hb3,pk,pi mi0])) (by kernel_rfl) (k (js 21 j0 [(1,.bool true),(2,.bool true),(3,.bool false),(4,.bool true),(5,.bool false),(6,.bool true),(7,.bool false),(8,.bool false),(9,.bool true),(10,.bool false),(11,.bool false),(12,.bool true)]))
 subst hv
 rintro ⟨⟩
 exact AA _ _ (Aa 300 o4) (by kernel_rfl) (.GX k) .sc
 rintro ⟨⟩
 exact AA _ _ (Aa 300 (o2++[pb hb1,pb hb3,CL (Bu .lost he0),pn hb4])) (by kernel_rfl) (.GX k) .sc
 refine Ae (fun hb5=>?_) fun hb5=>?_
 refine Aj fun y6 hy6=>?_
 let o5:List (PC P G):=o2++[pb hb1,pb hb3,pb hb5,pk,CL (Bu .lost he0),Ak (Lq hy6)]
 refine Ae (fun hv=>?_) fun hv=>?_
 subst hv
 rintro ⟨⟩
 exact C9 (Aa 300 (o5++[pi mi0])) (by kernel_rfl) (k (js 21 j0 [(1,.bool true),(2,.bool true),(3,.bool false),(4,.bool false),(5,.bool false),(6,.bool false),(13,.bool true),(14,.bool true),(15,.bool true),(16,.bool false)]))
 subst hv
 rintro ⟨⟩
 exact AA _ _ (Aa 300 o5) (by kernel_rfl) (.GX k) .sc
 rintro ⟨⟩
 exact AA _ _ (Aa 300 (o2++[pb hb1,pb hb3,pb hb5])) (by kernel_rfl) (.GX k) .sc
 subst hv
 rintro ⟨⟩
 exact AA _ _ (Aa 300 o1) (by kernel_rfl) (.GX k) .sc
 rintro ⟨unless3_7,amount4_7⟩ jx_7
 dsimp only
 refine Ae (fun hb6=>?_) fun hb6=>?_
 refine Ae (fun hb7=>?_) fun hb7=>?_
 intro h
 have hE:=Option.some.inj h
 subst hE
 exact AA _ _ (BU 300 [pb hb6,pb hb7]) (by kernel_rfl) .body .sc
 intro h
 have hE:=Option.some.inj h
 subst hE
 exact AA _ _ (BU 300 [pb hb6,pb hb7]) (by kernel_rfl) .body .sc
 intro h
 have hE:=Option.some.inj h
 subst hE
 exact AA _ _ (BU 300 [pb hb6]) (by kernel_rfl) .body .sc
noncomputable def B65:Code:=A4 Tryz.f65
theorem b65:Tryz.f65.body=some B65:=by kernel_rfl
noncomputable def Gj  (n:Nd):Option Bool:=(Fh n.name).bind fun y1=>cond y1 ((EW n.unit).bind fun y2=>cond y2 (cond (Br n.kind 2) ((CN n).bind fun y3=>cond y3 (some true) (some false)) (cond (Br n.kind 3) ((CP n).bind fun y4=>cond y4 ((AQ n.n 1 4).bind fun y5=>some y5) (some false)) (cond (Br n.kind 4) ((Cw n).bind fun y6=>cond y6 ((AQ n.n 1 1000000).bind fun y7=>cond y7 ((some (FV 1 ((n.kids.length:Nat):Int))).bind fun q8=>cond q8 ((n.kids[0]?).bind fun x9=>(Dq x9).bind fun y10=>cond y10 ((JT n.kids 1 ((n.kids.length:Nat):Int)).bind fun l11=>(Cr l11).bind fun y12=>some y12) (some false)) (some false)) (some false)) (some false)) (some false)))) ((some (BL n.unit.data.toList A3.data.toList)).bind fun q13=>cond q13 (cond (Br n.kind 2) ((CN n).bind fun y14=>cond y14 (some true) (some false)) (cond (Br n.kind 3) ((CP n).bind fun y15=>cond y15 ((AQ n.n 1 4).bind fun y16=>some y16) (some false)) (cond (Br n.kind 4) ((Cw n).bind fun y17=>cond y17 ((AQ n.n 1 1000000).bind fun y18=>cond y18 ((some (FV 1 ((n.kids.length:Nat):Int))).bind fun q19=>cond q19 ((n.kids[0]?).bind fun x20=>(Dq x20).bind fun y21=>cond y21 ((JT n.kids 1 ((n.kids.length:Nat):Int)).bind fun l22=>(Cr l22).bind fun y23=>some y23) (some false)) (some false)) (some false)) (some false)) (some false)))) ((some (BL n.unit.data.toList By.data.toList)).bind fun q24=>cond q24 (cond (Br n.kind 2) ((CN n).bind fun y25=>cond y25 (some true) (some false)) (cond (Br n.kind 3) ((CP n).bind fun y26=>cond y26 ((AQ n.n 1 4).bind fun y27=>some y27) (some false)) (cond (Br n.kind 4) ((Cw n).bind fun y28=>cond y28 ((AQ n.n 1 1000000).bind fun y29=>cond y29 ((some (FV 1 ((n.kids.length:Nat):Int))).bind fun q30=>cond q30 ((n.kids[0]?).bind fun x31=>(Dq x31).bind fun y32=>cond y32 ((JT n.kids 1 ((n.kids.length:Nat):Int)).bind fun l33=>(Cr l33).bind fun y34=>some y34) (some false)) (some false)) (some false)) (some false)) (some false)))) ((some (BL n.unit.data.toList Cm.data.toList)).bind fun q35=>cond (Br n.kind 2) ((CN n).bind fun y36=>cond y36 (some q35) (some false)) (cond (Br n.kind 3) ((CP n).bind fun y37=>cond y37 (cond q35 ((AQ n.n 1 4).bind fun y38=>some y38) (some false)) (some false)) (cond (Br n.kind 4) ((Cw n).bind fun y39=>cond y39 ((AQ n.n 1 1000000).bind fun y40=>cond y40 ((some (FV 1 ((n.kids.length:Nat):Int))).bind fun q41=>cond q41 ((n.kids[0]?).bind fun x42=>(Dq x42).bind fun y43=>cond y43 ((JT n.kids 1 ((n.kids.length:Nat):Int)).bind fun l44=>(Cr l44).bind fun y45=>some y45) (some false)) (some false)) (some false)) (some false)) (some false))))))) (some false)
theorem J1   {n:Nd} {yR:Bool} (h:Gj  n=some yR):Pure P G 65 [.agg (A9 n)] (.sc (.bool yR)):=by
 unfold Gj at h
 refine BH Hd.mixed Hd.Ac (AG Tryz.func65 b65 ?_) (Bl (Am.F1 n) rfl) rfl
 revert h
 refine Aj fun y1 hy1=>?_
 let o1:List (PC P G):=[Ak (J5 hy1)]
 refine Ae (fun hv=>?_) fun hv=>?_
 subst hv
 refine Aj fun y2 hy2=>?_
 let o2:List (PC P G):=o1++[Ak (Gi hy2)]
 refine Ae (fun hv=>?_) fun hv=>?_
 subst hv
 refine Ae (fun hb1=>?_) fun hb1=>?_
 refine Aj fun y3 hy3=>?_
 refine Ae (fun hv=>?_) fun hv=>?_
 subst hv
 rintro ⟨⟩
 exact rS (Aa 300 (o2++[pb hb1,Ak (B0 hy3)])) (by kernel_rfl)
 subst hv
 rintro ⟨⟩
 exact rS (Aa 300 (o2++[pb hb1,Ak (B0 hy3)])) (by kernel_rfl)
 refine Ae (fun hb2=>?_) fun hb2=>?_
 refine Aj fun y4 hy4=>?_
 refine Ae (fun hv=>?_) fun hv=>?_
 subst hv
 refine Aj fun y5 hy5=>?_
 intro h
 have hE:=Option.some.inj h
 subst hE
 exact rS (Aa 300 (o2++[pb hb1,pb hb2,Ak (Cu hy4),Ak (Au hy5)])) (by kernel_rfl)
 subst hv
 rintro ⟨⟩
 exact rS (Aa 300 (o2++[pb hb1,pb hb2,Ak (Cu hy4)])) (by kernel_rfl)
 let o3:List (PC P G):=o2++[pb hb1,pb hb2]
 refine Ae (fun hb3=>?_) fun hb3=>?_
 refine Aj fun y6 hy6=>?_
 let o4:List (PC P G):=o3++[pb hb3,Ak (DZ hy6)]
 refine Ae (fun hv=>?_) fun hv=>?_
 subst hv
 refine Aj fun y7 hy7=>?_
 let o5:List (PC P G):=o4++[Ak (Au hy7)]
 refine Ae (fun hv=>?_) fun hv=>?_
 subst hv
 refine Aj fun q8 hq8=>?_
 let o6:List (PC P G):=o5++[K1 (VP hq8 (.tmp 59) (.const (.int .i64 1)))]
 refine Ae (fun hv=>?_) fun hv=>?_
 subst hv
 refine Aj fun x9 hx9=>?_
 refine Aj fun y10 hy10=>?_
 refine Ae (fun hv=>?_) fun hv=>?_
 subst hv
 refine Aj fun l11 hl11=>?_
 refine Aj fun y12 hy12=>?_
 intro h
 have hE:=Option.some.inj h
 subst hE
 exact rS (Aa 300 (o6++[CL (Bu .lost hx9),Ak (CO hy10),O1 (Gl hl11),Ak (Et hy12)])) (by kernel_rfl)
 subst hv
 rintro ⟨⟩
 exact rS (Aa 300 (o6++[CL (Bu .lost hx9),Ak (CO hy10)])) (by kernel_rfl)
 subst hv
 rintro ⟨⟩
 exact rS (Aa 300 o6) (by kernel_rfl)
 subst hv
 rintro ⟨⟩
 exact rS (Aa 300 o5) (by kernel_rfl)
 subst hv
 rintro ⟨⟩
 exact rS (Aa 300 o4) (by kernel_rfl)
 rintro ⟨⟩
 exact rS (Aa 300 (o3++[pb hb3])) (by kernel_rfl)
 subst hv
 refine Aj fun q13 hq13=>?_
 let o7:List (PC P G):=o2++[K1 (Yd hq13 (.tmp 13) (.const (.string A3)))]
 refine Ae (fun hv=>?_) fun hv=>?_
 subst hv
 refine Ae (fun hb4=>?_) fun hb4=>?_
 refine Aj fun y14 hy14=>?_
 refine Ae (fun hv=>?_) fun hv=>?_
 subst hv
 rintro ⟨⟩
 exact rS (Aa 300 (o7++[pb hb4,Ak (B0 hy14)])) (by kernel_rfl)
 subst hv
 rintro ⟨⟩
 exact rS (Aa 300 (o7++[pb hb4,Ak (B0 hy14)])) (by kernel_rfl)
 refine Ae (fun hb5=>?_) fun hb5=>?_
 refine Aj fun y15 hy15=>?_
 refine Ae (fun hv=>?_) fun hv=>?_
 subst hv
 refine Aj fun y16 hy16=>?_
 intro h
 have hE:=Option.some.inj h
 subst hE
 exact rS (Aa 300 (o7++[pb hb4,pb hb5,Ak (Cu hy15),Ak (Au hy16)])) (by kernel_rfl)
 subst hv
 rintro ⟨⟩
 exact rS (Aa 300 (o7++[pb hb4,pb hb5,Ak (Cu hy15)])) (by kernel_rfl)
 let o8:List (PC P G):=o7++[pb hb4,pb hb5]
 refine Ae (fun hb6=>?_) fun hb6=>?_
 refine Aj fun y17 hy17=>?_
 let o9:List (PC P G):=o8++[pb hb6,Ak (DZ hy17)]
 refine Ae (fun hv=>?_) fun hv=>?_
 subst hv
 refine Aj fun y18 hy18=>?_
 let o10:List (PC P G):=o9++[Ak (Au hy18)]
 refine Ae (fun hv=>?_) fun hv=>?_
 subst hv
 refine Aj fun q19 hq19=>?_
 let o11:List (PC P G):=o10++[K1 (VP hq19 (.tmp 59) (.const (.int .i64 1)))]
 refine Ae (fun hv=>?_) fun hv=>?_
 subst hv
 refine Aj fun x20 hx20=>?_
 refine Aj fun y21 hy21=>?_
 refine Ae (fun hv=>?_) fun hv=>?_
 subst hv
 refine Aj fun l22 hl22=>?_
 refine Aj fun y23 hy23=>?_
 intro h
 have hE:=Option.some.inj h
 subst hE
 exact rS (Aa 300 (o11++[CL (Bu .lost hx20),Ak (CO hy21),O1 (Gl hl22),Ak (Et hy23)])) (by kernel_rfl)
 subst hv
 rintro ⟨⟩
 exact rS (Aa 300 (o11++[CL (Bu .lost hx20),Ak (CO hy21)])) (by kernel_rfl)
 subst hv
 rintro ⟨⟩
 exact rS (Aa 300 o11) (by kernel_rfl)
 subst hv
 rintro ⟨⟩
 exact rS (Aa 300 o10) (by kernel_rfl)
 subst hv
 rintro ⟨⟩
 exact rS (Aa 300 o9) (by kernel_rfl)
 rintro ⟨⟩
 exact rS (Aa 300 (o8++[pb hb6])) (by kernel_rfl)
 subst hv
 refine Aj fun q24 hq24=>?_
 let o12:List (PC P G):=o7++[K1 (Yd hq24 (.tmp 18) (.const (.string By)))]
 refine Ae (fun hv=>?_) fun hv=>?_
 subst hv
 refine Ae (fun hb7=>?_) fun hb7=>?_
 refine Aj fun y25 hy25=>?_
 refine Ae (fun hv=>?_) fun hv=>?_
 subst hv
 rintro ⟨⟩
 exact rS (Aa 300 (o12++[pb hb7,Ak (B0 hy25)])) (by kernel_rfl)
 subst hv
 rintro ⟨⟩
 exact rS (Aa 300 (o12++[pb hb7,Ak (B0 hy25)])) (by kernel_rfl)
 refine Ae (fun hb8=>?_) fun hb8=>?_
 refine Aj fun y26 hy26=>?_
 refine Ae (fun hv=>?_) fun hv=>?_
 subst hv
 refine Aj fun y27 hy27=>?_
 intro h
 have hE:=Option.some.inj h
 subst hE
 exact rS (Aa 300 (o12++[pb hb7,pb hb8,Ak (Cu hy26),Ak (Au hy27)])) (by kernel_rfl)
 subst hv
 rintro ⟨⟩
 exact rS (Aa 300 (o12++[pb hb7,pb hb8,Ak (Cu hy26)])) (by kernel_rfl)
 let o13:List (PC P G):=o12++[pb hb7,pb hb8]
 refine Ae (fun hb9=>?_) fun hb9=>?_
 refine Aj fun y28 hy28=>?_
 let o14:List (PC P G):=o13++[pb hb9,Ak (DZ hy28)]
 refine Ae (fun hv=>?_) fun hv=>?_
 subst hv
 refine Aj fun y29 hy29=>?_
 let o15:List (PC P G):=o14++[Ak (Au hy29)]
 refine Ae (fun hv=>?_) fun hv=>?_
 subst hv
 refine Aj fun q30 hq30=>?_
 let o16:List (PC P G):=o15++[K1 (VP hq30 (.tmp 59) (.const (.int .i64 1)))]
 refine Ae (fun hv=>?_) fun hv=>?_
 subst hv
 refine Aj fun x31 hx31=>?_
 refine Aj fun y32 hy32=>?_
 refine Ae (fun hv=>?_) fun hv=>?_
 subst hv
 refine Aj fun l33 hl33=>?_
 refine Aj fun y34 hy34=>?_
 intro h
 have hE:=Option.some.inj h
 subst hE
 exact rS (Aa 300 (o16++[CL (Bu .lost hx31),Ak (CO hy32),O1 (Gl hl33),Ak (Et hy34)])) (by kernel_rfl)
 subst hv
 rintro ⟨⟩
 exact rS (Aa 300 (o16++[CL (Bu .lost hx31),Ak (CO hy32)])) (by kernel_rfl)
 subst hv
 rintro ⟨⟩
 exact rS (Aa 300 o16) (by kernel_rfl)
 subst hv
 rintro ⟨⟩
 exact rS (Aa 300 o15) (by kernel_rfl)
 subst hv
 rintro ⟨⟩
 exact rS (Aa 300 o14) (by kernel_rfl)
 rintro ⟨⟩
 exact rS (Aa 300 (o13++[pb hb9])) (by kernel_rfl)
 subst hv
 refine Aj fun q35 hq35=>?_
 let o17:List (PC P G):=o12++[K1 (Yd hq35 (.tmp 23) (.const (.string Cm)))]
 refine Ae (fun hb10=>?_) fun hb10=>?_
 refine Aj fun y36 hy36=>?_
 refine Ae (fun hv=>?_) fun hv=>?_
 subst hv
 intro h
 have hE:=Option.some.inj h
 subst hE
 exact rS (Aa 300 (o17++[pb hb10,Ak (B0 hy36)])) (by kernel_rfl)
 subst hv
 rintro ⟨⟩
 exact rS (Aa 300 (o17++[pb hb10,Ak (B0 hy36)])) (by kernel_rfl)
 refine Ae (fun hb11=>?_) fun hb11=>?_
 refine Aj fun y37 hy37=>?_
 let o18:List (PC P G):=o17++[pb hb10,pb hb11,Ak (Cu hy37)]
 refine Ae (fun hv=>?_) fun hv=>?_
 subst hv
 refine Ae (fun hv=>?_) fun hv=>?_
 subst hv
 refine Aj fun y38 hy38=>?_
 intro h
 have hE:=Option.some.inj h
 subst hE
 exact rS (Aa 300 (o18++[Ak (Au hy38)])) (by kernel_rfl)
 subst hv
 rintro ⟨⟩
 exact rS (Aa 300 o18) (by kernel_rfl)
 subst hv
 rintro ⟨⟩
 exact rS (Aa 300 o18) (by kernel_rfl)
 let o19:List (PC P G):=o17++[pb hb10,pb hb11]
 refine Ae (fun hb12=>?_) fun hb12=>?_
 refine Aj fun y39 hy39=>?_
 let o20:List (PC P G):=o19++[pb hb12,Ak (DZ hy39)]
 refine Ae (fun hv=>?_) fun hv=>?_
 subst hv
 refine Aj fun y40 hy40=>?_
 let o21:List (PC P G):=o20++[Ak (Au hy40)]
 refine Ae (fun hv=>?_) fun hv=>?_
 subst hv
 refine Aj fun q41 hq41=>?_
 let o22:List (PC P G):=o21++[K1 (VP hq41 (.tmp 59) (.const (.int .i64 1)))]
 refine Ae (fun hv=>?_) fun hv=>?_
 subst hv
 refine Aj fun x42 hx42=>?_
 refine Aj fun y43 hy43=>?_
 refine Ae (fun hv=>?_) fun hv=>?_
 subst hv
 refine Aj fun l44 hl44=>?_
 refine Aj fun y45 hy45=>?_
 intro h
 have hE:=Option.some.inj h
 subst hE
 exact rS (Aa 300 (o22++[CL (Bu .lost hx42),Ak (CO hy43),O1 (Gl hl44),Ak (Et hy45)])) (by kernel_rfl)
 subst hv
 rintro ⟨⟩
 exact rS (Aa 300 (o22++[CL (Bu .lost hx42),Ak (CO hy43)])) (by kernel_rfl)
 subst hv
 rintro ⟨⟩
 exact rS (Aa 300 o22) (by kernel_rfl)
 subst hv
 rintro ⟨⟩
 exact rS (Aa 300 o21) (by kernel_rfl)
 subst hv
 rintro ⟨⟩
 exact rS (Aa 300 o20) (by kernel_rfl)
 rintro ⟨⟩
 exact rS (Aa 300 (o19++[pb hb12])) (by kernel_rfl)
 subst hv
 rintro ⟨⟩
 exact rS (Aa 300 o1) (by kernel_rfl)
noncomputable def xC:Code:=A4 Tryz.f39
theorem b39:Tryz.f39.body=some xC:=by kernel_rfl
noncomputable def Gc   (i0:Nat) (e0:Nd) :Option (Lp Unit Unit Bool):=(Gj e0).bind fun y3=>cond y3 (some (.nx ())) (some (.rt false))
noncomputable def EE  (n:Nd):Option Bool:=(Gu n).bind fun y1=>cond y1 (cond (Br n.kind 1) ((Gv n.kids.length (AT (fun i y x=>Gc   i y ) (fun x=>()) (n.kids.drop 0) 0 ())).bind (GF (fun (_:Unit)=>(CY n).bind fun y5=>some y5) (fun v=>some v))) ((Fk n).bind fun y2=>some y2)) (some false)
theorem Jn   {n:Nd} {yR:Bool} (h:EE  n=some yR):Pure P G 39 [.agg (A9 n)] (.sc (.bool yR)):=by
 unfold EE at h
 refine BH Hd.mixed Hd.Ac (AG Tryz.func39 b39 ?_) (Bl (Am.F1 n) rfl) rfl
 revert h
 refine Aj fun y1 hy1=>?_
 refine Ae (fun hv=>?_) fun hv=>?_
 subst hv
 refine Ae (fun hb1=>?_) fun hb1=>?_
 refine DJ (fun Q v=>DI P Tryz.f39 0 Q (.sc (.bool v))) (fun i0 (_:Unit) (j0:List Value)=>fr 28 [(1,.ptr 0 0),(3,.sc (.int .i64 ((i0:Nat):Int)))] [2,5,6,9,11,16,24,25,27] j0) (fun (_:Unit)=>⟨[(0,.cells (A9 n))],1,[],0⟩) (fun (_:Unit) (jx:List Value)=>fr 28 [(1,.ptr 0 0)] [2,5,6,9,11,16,24,25,27] jx) (fun (_:Unit)=>⟨[(0,.cells (A9 n))],1,[],0⟩) [.bool false,.bool true,.bool false,.bool false] (DG [] 0 (sb xC 244) [.code (sb xC 31)] (Aa 300 [Ak (Hu hy1),pn hb1]) (by kernel_rfl)) ?_ ?_ ?_ (fun v h=>by cases h;exact .outer .body)
 rintro i0 ⟨⟩ j0 hge hq
 exact BV (Aa 300 [pb (II hge)]) (by kernel_rfl) (hq (js 9 j0 [(5,.bool false)]))
 rintro i0 e0 ⟨⟩ j0 r he0 hi0 mi0 k
 show Gc   i0 e0 =some r→_
 unfold Gc
 refine Aj fun y3 hy3=>?_
 refine Ae (fun hv=>?_) fun hv=>?_
 subst hv
 rintro ⟨⟩
 exact C9 (Aa 300 [pb (F5 hi0),CL (Bu .lost he0),Ak (J1 hy3),pi mi0]) (by kernel_rfl) (k (js 9 j0 [(5,.bool true),(6,.bool true),(7,.bool false)]))
 subst hv
 rintro ⟨⟩
 exact AA _ _ (Aa 300 [pb (F5 hi0),CL (Bu .lost he0),Ak (J1 hy3)]) (by kernel_rfl) (.GX k) .sc
 rintro ⟨⟩ jx_4
 refine Aj fun y5 hy5=>?_
 intro h
 have hE:=Option.some.inj h
 subst hE
 exact AA _ _ (BU 300 [Ak (FA hy5)]) (by kernel_rfl) .body .sc
 refine Aj fun y2 hy2=>?_
 intro h
 have hE:=Option.some.inj h
 subst hE
 exact rS (Aa 300 [Ak (Hu hy1),pn hb1,Ak (I4 hy2)]) (by kernel_rfl)
 subst hv
 rintro ⟨⟩
 exact rS (Aa 300 [Ak (Hu hy1)]) (by kernel_rfl)
noncomputable def B19:Code:=A4 Tryz.f19
theorem b19:Tryz.f19.body=some B19:=by kernel_rfl
noncomputable def E7  (n:Nd):Option Bool:=cond (Br n.kind 1) ((EE n).bind fun y1=>some y1) (some false)
theorem MI   {n:Nd} {yR:Bool} (h:E7  n=some yR):Pure P G 19 [.agg (A9 n)] (.sc (.bool yR)):=by
 unfold E7 at h
 refine BH Hd.mixed Hd.Ac (AG Tryz.func19 b19 ?_) (Bl (Am.F1 n) rfl) rfl
 revert h
 refine Ae (fun hb1=>?_) fun hb1=>?_
 refine Aj fun y1 hy1=>?_
 intro h
 have hE:=Option.some.inj h
 subst hE
 exact rS (Aa 300 [pb hb1,Ak (Jn hy1)]) (by kernel_rfl)
 rintro ⟨⟩
 exact rS (Aa 300 [pb hb1]) (by kernel_rfl)
noncomputable def B20:Code:=A4 Tryz.f20
theorem b20:Tryz.f20.body=some B20:=by kernel_rfl
noncomputable def Dy  (n:Nd):Option Bool:=cond (Br n.kind 1) (some false) ((EE n).bind fun y1=>some y1)
theorem J9   {n:Nd} {yR:Bool} (h:Dy  n=some yR):Pure P G 20 [.agg (A9 n)] (.sc (.bool yR)):=by
 unfold Dy at h
 refine BH Hd.mixed Hd.Ac (AG Tryz.func20 b20 ?_) (Bl (Am.F1 n) rfl) rfl
 revert h
 refine Ae (fun hb1=>?_) fun hb1=>?_
 rintro ⟨⟩
 exact rS (Aa 300 [pn hb1]) (by kernel_rfl)
 refine Aj fun y1 hy1=>?_
 intro h
 have hE:=Option.some.inj h
 subst hE
 exact rS (Aa 300 [pn hb1,Ak (Jn hy1)]) (by kernel_rfl)
noncomputable def LJ:Code:=A4 Tryz.f21
theorem b21:Tryz.f21.body=some LJ:=by kernel_rfl
noncomputable def Dk (Al:Nd→ByteArray→ByteArray→ByteArray→ByteArray→Option Nd) (from_:ByteArray) (to:ByteArray) (a:ByteArray) (b:ByteArray) (i0:Nat) (e0:Nd) (w2_9:(List Nd)):Option (Lp (List Nd) (List Nd) Nd):=(Al e0 from_ to a b).bind fun y2=>My (w2_9.length+1) (some (.nx (w2_9++[y2])))
noncomputable def Dj (Al:Nd→ByteArray→ByteArray→ByteArray→ByteArray→Option Nd) (from_:ByteArray) (to:ByteArray) (a:ByteArray) (b:ByteArray) (i1:Nat) (e1:Nd) (w2_9:(List Nd)):Option (Lp (List Nd) (List Nd) Nd):=(Al e1 from_ to a b).bind fun y6=>My (w2_9.length+1) (some (.nx (w2_9++[y6])))
noncomputable def Di (Al:Nd→ByteArray→ByteArray→ByteArray→ByteArray→Option Nd) (from_:ByteArray) (to:ByteArray) (a:ByteArray) (b:ByteArray) (i2:Nat) (e2:Nd) (w2_9:(List Nd)):Option (Lp (List Nd) (List Nd) Nd):=(Al e2 from_ to a b).bind fun y10=>My (w2_9.length+1) (some (.nx (w2_9++[y10])))
noncomputable def B3 (Al:Nd→ByteArray→ByteArray→ByteArray→ByteArray→Option Nd) (from_:ByteArray) (to:ByteArray) (a:ByteArray) (b:ByteArray) (i3:Nat) (e3:Nd) (w2_9:(List Nd)):Option (Lp (List Nd) (List Nd) Nd):=(Al e3 from_ to a b).bind fun y14=>My (w2_9.length+1) (some (.nx (w2_9++[y14])))
noncomputable def B2 (Al:Nd→ByteArray→ByteArray→ByteArray→ByteArray→Option Nd) (from_:ByteArray) (to:ByteArray) (a:ByteArray) (b:ByteArray) (i4:Nat) (e4:Nd) (w2_9:(List Nd)):Option (Lp (List Nd) (List Nd) Nd):=(Al e4 from_ to a b).bind fun y18=>My (w2_9.length+1) (some (.nx (w2_9++[y18])))
noncomputable def B1 (Al:Nd→ByteArray→ByteArray→ByteArray→ByteArray→Option Nd) (from_:ByteArray) (to:ByteArray) (a:ByteArray) (b:ByteArray) (i5:Nat) (e5:Nd) (w2_9:(List Nd)):Option (Lp (List Nd) (List Nd) Nd):=(Al e5 from_ to a b).bind fun y22=>My (w2_9.length+1) (some (.nx (w2_9++[y22])))
noncomputable def Ga (Al:Nd→ByteArray→ByteArray→ByteArray→ByteArray→Option Nd) (n:Nd) (from_:ByteArray) (to:ByteArray) (a:ByteArray) (b:ByteArray):Option Nd:=cond (Br n.kind 2) (cond (BL n.name.data.toList from_.data.toList) (cond (BL n.unit.data.toList a.data.toList) ((Gv n.kids.length (AT (fun i y x=>Dk Al from_ to a b i y x) (fun x=>x) (n.kids.drop 0) 0 [])).bind (GF (fun (w2_9_4:(List Nd))=>some (⟨n.kind,to,b,n.n,n.fr,n.to,n.known,n.tab,w2_9_4,n.att⟩:Nd)) (fun v=>some v))) (cond (BL n.unit.data.toList b.data.toList) ((Gv n.kids.length (AT (fun i y x=>Dj Al from_ to a b i y x) (fun x=>x) (n.kids.drop 0) 0 [])).bind (GF (fun (w2_9_8:(List Nd))=>some (⟨n.kind,to,a,n.n,n.fr,n.to,n.known,n.tab,w2_9_8,n.att⟩:Nd)) (fun v=>some v))) ((Gv n.kids.length (AT (fun i y x=>Di Al from_ to a b i y x) (fun x=>x) (n.kids.drop 0) 0 [])).bind (GF (fun (w2_9_12:(List Nd))=>some (⟨n.kind,to,n.unit,n.n,n.fr,n.to,n.known,n.tab,w2_9_12,n.att⟩:Nd)) (fun v=>some v))))) (cond (BL n.unit.data.toList a.data.toList) ((Gv n.kids.length (AT (fun i y x=>B3 Al from_ to a b i y x) (fun x=>x) (n.kids.drop 0) 0 [])).bind (GF (fun (w2_9_16:(List Nd))=>some (⟨n.kind,n.name,b,n.n,n.fr,n.to,n.known,n.tab,w2_9_16,n.att⟩:Nd)) (fun v=>some v))) (cond (BL n.unit.data.toList b.data.toList) ((Gv n.kids.length (AT (fun i y x=>B2 Al from_ to a b i y x) (fun x=>x) (n.kids.drop 0) 0 [])).bind (GF (fun (w2_9_20:(List Nd))=>some (⟨n.kind,n.name,a,n.n,n.fr,n.to,n.known,n.tab,w2_9_20,n.att⟩:Nd)) (fun v=>some v))) ((Gv n.kids.length (AT (fun i y x=>B1 Al from_ to a b i y x) (fun x=>x) (n.kids.drop 0) 0 [])).bind (GF (fun (w2_9_24:(List Nd))=>some (⟨n.kind,n.name,n.unit,n.n,n.fr,n.to,n.known,n.tab,w2_9_24,n.att⟩:Nd)) (fun v=>some v)))))) (cond (Br n.kind 12) (cond (BL n.name.data.toList from_.data.toList) (cond (BL n.unit.data.toList a.data.toList) ((Gv n.kids.length (AT (fun i y x=>Dk Al from_ to a b i y x) (fun x=>x) (n.kids.drop 0) 0 [])).bind (GF (fun (w2_9_25:(List Nd))=>some (⟨n.kind,to,b,n.n,n.fr,n.to,n.known,n.tab,w2_9_25,n.att⟩:Nd)) (fun v=>some v))) (cond (BL n.unit.data.toList b.data.toList) ((Gv n.kids.length (AT (fun i y x=>Dj Al from_ to a b i y x) (fun x=>x) (n.kids.drop 0) 0 [])).bind (GF (fun (w2_9_26:(List Nd))=>some (⟨n.kind,to,a,n.n,n.fr,n.to,n.known,n.tab,w2_9_26,n.att⟩:Nd)) (fun v=>some v))) ((Gv n.kids.length (AT (fun i y x=>Di Al from_ to a b i y x) (fun x=>x) (n.kids.drop 0) 0 [])).bind (GF (fun (w2_9_27:(List Nd))=>some (⟨n.kind,to,n.unit,n.n,n.fr,n.to,n.known,n.tab,w2_9_27,n.att⟩:Nd)) (fun v=>some v))))) (cond (BL n.unit.data.toList a.data.toList) ((Gv n.kids.length (AT (fun i y x=>B3 Al from_ to a b i y x) (fun x=>x) (n.kids.drop 0) 0 [])).bind (GF (fun (w2_9_28:(List Nd))=>some (⟨n.kind,n.name,b,n.n,n.fr,n.to,n.known,n.tab,w2_9_28,n.att⟩:Nd)) (fun v=>some v))) (cond (BL n.unit.data.toList b.data.toList) ((Gv n.kids.length (AT (fun i y x=>B2 Al from_ to a b i y x) (fun x=>x) (n.kids.drop 0) 0 [])).bind (GF (fun (w2_9_29:(List Nd))=>some (⟨n.kind,n.name,a,n.n,n.fr,n.to,n.known,n.tab,w2_9_29,n.att⟩:Nd)) (fun v=>some v))) ((Gv n.kids.length (AT (fun i y x=>B1 Al from_ to a b i y x) (fun x=>x) (n.kids.drop 0) 0 [])).bind (GF (fun (w2_9_30:(List Nd))=>some (⟨n.kind,n.name,n.unit,n.n,n.fr,n.to,n.known,n.tab,w2_9_30,n.att⟩:Nd)) (fun v=>some v)))))) (cond (BL n.unit.data.toList a.data.toList) ((Gv n.kids.length (AT (fun i y x=>B3 Al from_ to a b i y x) (fun x=>x) (n.kids.drop 0) 0 [])).bind (GF (fun (w2_9_31:(List Nd))=>some (⟨n.kind,n.name,b,n.n,n.fr,n.to,n.known,n.tab,w2_9_31,n.att⟩:Nd)) (fun v=>some v))) (cond (BL n.unit.data.toList b.data.toList) ((Gv n.kids.length (AT (fun i y x=>B2 Al from_ to a b i y x) (fun x=>x) (n.kids.drop 0) 0 [])).bind (GF (fun (w2_9_32:(List Nd))=>some (⟨n.kind,n.name,a,n.n,n.fr,n.to,n.known,n.tab,w2_9_32,n.att⟩:Nd)) (fun v=>some v))) ((Gv n.kids.length (AT (fun i y x=>B1 Al from_ to a b i y x) (fun x=>x) (n.kids.drop 0) 0 [])).bind (GF (fun (w2_9_33:(List Nd))=>some (⟨n.kind,n.name,n.unit,n.n,n.fr,n.to,n.known,n.tab,w2_9_33,n.att⟩:Nd)) (fun v=>some v))))))
theorem L5 (Al:Nd→ByteArray→ByteArray→ByteArray→ByteArray→Option Nd) (Bb:∀ {n:Nd} {from_:ByteArray} {to:ByteArray} {a:ByteArray} {b:ByteArray} {yR:Nd},Al n from_ to a b=some yR→Pure P G 21 [.agg (A9 n),.sc (.string from_),.sc (.string to),.sc (.string a),.sc (.string b)] (.agg (A9 yR))) {n:Nd} {from_:ByteArray} {to:ByteArray} {a:ByteArray} {b:ByteArray} {yR:Nd} (h:Ga Al n from_ to a b=some yR):Pure P G 21 [.agg (A9 n),.sc (.string from_),.sc (.string to),.sc (.string a),.sc (.string b)] (.agg (A9 yR)):=by
 unfold Ga at h
 refine BH Hd.mixed Hd.Ac (AG Tryz.func21 b21 ?_) (Bl (Am.F1 n) (Bl rfl (Bl rfl (Bl rfl (Bl rfl rfl))))) (Am.F1 yR)
 revert h
 refine Ae (fun hb1=>?_) fun hb1=>?_
 refine Ae (fun hb2=>?_) fun hb2=>?_
 refine Ae (fun hb3=>?_) fun hb3=>?_
 refine DJ (fun Q v=>DI P Tryz.f21 0 Q (.agg (A9 v))) (fun i0 (w2_9:(List Nd)) (j0:List Value)=>fr 66 [(1,.sc (.string from_)),(2,.sc (.string to)),(3,.sc (.string a)),(4,.sc (.string b)),(5,.ptr 0 0),(10,.ptr 1 0),(11,.ptr 2 0),(12,.sc (.int .i64 ((i0:Nat):Int)))] [17,18,21,22,23,27,28,33,35,38,40,47] j0) (fun (w2_9:(List Nd))=>⟨[(2,.cells [.sc (.int .i64 n.kind),.sc (.string to),.sc (.string b),.sc (.int .i64 n.n),.sc (.int .i64 n.fr),.sc (.int .i64 n.to),.sc (.int .i64 n.known),.sc (.int .i64 n.tab.den),.sl .lost n.tab.ps.length (rows FF n.tab.ps),.sl (.row 0 11) w2_9.length (A7 w2_9),.sc (.int .i64 n.att)]),(1,.cells [.sc (.int .i64 0),.sc (.string ByteArray.empty),.sc (.string ByteArray.empty),.sc (.int .i64 0),.sc (.int .i64 0),.sc (.int .i64 0),.sc (.int .i64 0),.sc (.int .i64 0),.sl .full 0 [],.sl .full 0 [],.sc (.int .i64 0)]),(0,.cells (A9 n))],3,[(0,w2_9.length)],1⟩) (fun (w2_9:(List Nd)) (jx:List Value)=>fr 66 [(10,.ptr 1 0),(11,.ptr 2 0)] [17,18,21,22,23,27,28,33,35,38,40,47] jx) (fun (w2_9:(List Nd))=>⟨[(2,.cells [.sc (.int .i64 n.kind),.sc (.string to),.sc (.string b),.sc (.int .i64 n.n),.sc (.int .i64 n.fr),.sc (.int .i64 n.to),.sc (.int .i64 n.known),.sc (.int .i64 n.tab.den),.sl .lost n.tab.ps.length (rows FF n.tab.ps),.sl (.row 0 11) w2_9.length (A7 w2_9),.sc (.int .i64 n.att)]),(1,.cells [.sc (.int .i64 0),.sc (.string ByteArray.empty),.sc (.string ByteArray.empty),.sc (.int .i64 0),.sc (.int .i64 0),.sc (.int .i64 0),.sc (.int .i64 0),.sc (.int .i64 0),.sl .full 0 [],.sl .full 0 [],.sc (.int .i64 0)]),(0,.cells (A9 n))],3,[(0,w2_9.length)],1⟩) [.bool true,.bool true,undef,.bool true,.bool true,.bool true,.bool true,.bool true,.bool true] (DG [.b 2 9 11] 1 (sb LJ 1012) [.code (sb LJ 127)] (Aa 300 [pb hb1,pb hb2,pb hb3]) (by kernel_rfl)) ?_ ?_ ?_ (fun v h=>by cases h;exact .outer .body)
 rintro i0 w2_9 j0 hge hq
 exact BV (Aa 300 [pb (II hge)]) (by kernel_rfl) (hq (js 12 j0 [(11,.bool false)]))
 rintro i0 e0 w2_9 j0 r he0 hi0 mi0 k
 show Dk Al from_ to a b i0 e0 w2_9=some r→_
 unfold Dk
 refine Aj fun y2 hy2=>?_
 refine Hy fun hl3=>?_
 rintro ⟨⟩
 exact C9 (Aa 300 [pb (F5 hi0),TH,CL (Bu .lost he0),Ak (Bb hy2),K3 (Ir (.row 0 11) w2_9 [y2] (o:=.full) (n:=1) (ns:=(A9 y2)) (Am.wn [y2] (.r (.r (.r (.r (.r (.r (.r (.r (.r (.r (.r .nil)))))))))))) rfl rfl (by simp) (by simpa using hl3)),pi mi0]) (by kernel_rfl) (k (js 12 j0 [(11,.bool true)]))
 rintro w2_9_4 jx_4
 intro h
 have hE:=Option.some.inj h
 subst hE
 exact AA (v:=.agg [.sc (.int .i64 n.kind),.sc (.string to),.sc (.string b),.sc (.int .i64 n.n),.sc (.int .i64 n.fr),.sc (.int .i64 n.to),.sc (.int .i64 n.known),.sc (.int .i64 n.tab.den),.sl .lost n.tab.ps.length (rows FF n.tab.ps),.sl (.row 0 11) w2_9_4.length (A7 w2_9_4),.sc (.int .i64 n.att)]) _ _ (BU 300 []) (by kernel_rfl) .body (.wn (.g (.r (.r (.r (.r (.r (.r (.r (.r (.r (.s rfl (.r .nil))))))))))) .nil) (Am.F1 (⟨n.kind,to,b,n.n,n.fr,n.to,n.known,n.tab,w2_9_4,n.att⟩:Nd)))
 refine Ae (fun hb4=>?_) fun hb4=>?_
 refine DJ (fun Q v=>DI P Tryz.f21 0 Q (.agg (A9 v))) (fun i1 (w2_9:(List Nd)) (j1:List Value)=>fr 66 [(1,.sc (.string from_)),(2,.sc (.string to)),(3,.sc (.string a)),(4,.sc (.string b)),(5,.ptr 0 0),(10,.ptr 1 0),(11,.ptr 2 0),(12,.sc (.int .i64 ((i1:Nat):Int)))] [17,18,21,22,23,27,28,33,35,38,40,47] j1) (fun (w2_9:(List Nd))=>⟨[(2,.cells [.sc (.int .i64 n.kind),.sc (.string to),.sc (.string a),.sc (.int .i64 n.n),.sc (.int .i64 n.fr),.sc (.int .i64 n.to),.sc (.int .i64 n.known),.sc (.int .i64 n.tab.den),.sl .lost n.tab.ps.length (rows FF n.tab.ps),.sl (.row 0 11) w2_9.length (A7 w2_9),.sc (.int .i64 n.att)]),(1,.cells [.sc (.int .i64 0),.sc (.string ByteArray.empty),.sc (.string ByteArray.empty),.sc (.int .i64 0),.sc (.int .i64 0),.sc (.int .i64 0),.sc (.int .i64 0),.sc (.int .i64 0),.sl .full 0 [],.sl .full 0 [],.sc (.int .i64 0)]),(0,.cells (A9 n))],3,[(0,w2_9.length)],1⟩) (fun (w2_9:(List Nd)) (jx:List Value)=>fr 66 [(10,.ptr 1 0),(11,.ptr 2 0)] [17,18,21,22,23,27,28,33,35,38,40,47] jx) (fun (w2_9:(List Nd))=>⟨[(2,.cells [.sc (.int .i64 n.kind),.sc (.string to),.sc (.string a),.sc (.int .i64 n.n),.sc (.int .i64 n.fr),.sc (.int .i64 n.to),.sc (.int .i64 n.known),.sc (.int .i64 n.tab.den),.sl .lost n.tab.ps.length (rows FF n.tab.ps),.sl (.row 0 11) w2_9.length (A7 w2_9),.sc (.int .i64 n.att)]),(1,.cells [.sc (.int .i64 0),.sc (.string ByteArray.empty),.sc (.string ByteArray.empty),.sc (.int .i64 0),.sc (.int .i64 0),.sc (.int .i64 0),.sc (.int .i64 0),.sc (.int .i64 0),.sl .full 0 [],.sl .full 0 [],.sc (.int .i64 0)]),(0,.cells (A9 n))],3,[(0,w2_9.length)],1⟩) [.bool true,.bool true,undef,.bool true,.bool true,.bool true,.bool true,.bool false,.bool false,.bool true,.bool true] (DG [.b 2 9 11] 1 (sb LJ 1012) [.code (sb LJ 127)] (Aa 300 [pb hb1,pb hb2,pb hb3,pb hb4]) (by kernel_rfl)) ?_ ?_ ?_ (fun v h=>by cases h;exact .outer .body)
 rintro i1 w2_9 j1 hge hq
 exact BV (Aa 300 [pb (II hge)]) (by kernel_rfl) (hq (js 12 j1 [(11,.bool false)]))
 rintro i1 e1 w2_9 j1 r he1 hi1 mi1 k
 show Dj Al from_ to a b i1 e1 w2_9=some r→_
 unfold Dj
 refine Aj fun y6 hy6=>?_
 refine Hy fun hl7=>?_
 rintro ⟨⟩
 exact C9 (Aa 300 [pb (F5 hi1),TH,CL (Bu .lost he1),Ak (Bb hy6),K3 (Ir (.row 0 11) w2_9 [y6] (o:=.full) (n:=1) (ns:=(A9 y6)) (Am.wn [y6] (.r (.r (.r (.r (.r (.r (.r (.r (.r (.r (.r .nil)))))))))))) rfl rfl (by simp) (by simpa using hl7)),pi mi1]) (by kernel_rfl) (k (js 12 j1 [(11,.bool true)]))
 rintro w2_9_8 jx_8
 intro h
 have hE:=Option.some.inj h
 subst hE
 exact AA (v:=.agg [.sc (.int .i64 n.kind),.sc (.string to),.sc (.string a),.sc (.int .i64 n.n),.sc (.int .i64 n.fr),.sc (.int .i64 n.to),.sc (.int .i64 n.known),.sc (.int .i64 n.tab.den),.sl .lost n.tab.ps.length (rows FF n.tab.ps),.sl (.row 0 11) w2_9_8.length (A7 w2_9_8),.sc (.int .i64 n.att)]) _ _ (BU 300 []) (by kernel_rfl) .body (.wn (.g (.r (.r (.r (.r (.r (.r (.r (.r (.r (.s rfl (.r .nil))))))))))) .nil) (Am.F1 (⟨n.kind,to,a,n.n,n.fr,n.to,n.known,n.tab,w2_9_8,n.att⟩:Nd)))
 refine DJ (fun Q v=>DI P Tryz.f21 0 Q (.agg (A9 v))) (fun i2 (w2_9:(List Nd)) (j2:List Value)=>fr 66 [(1,.sc (.string from_)),(2,.sc (.string to)),(3,.sc (.string a)),(4,.sc (.string b)),(5,.ptr 0 0),(10,.ptr 1 0),(11,.ptr 2 0),(12,.sc (.int .i64 ((i2:Nat):Int)))] [17,18,21,22,23,27,28,33,35,38,40,47] j2) (fun (w2_9:(List Nd))=>⟨[(2,.cells [.sc (.int .i64 n.kind),.sc (.string to),.sc (.string n.unit),.sc (.int .i64 n.n),.sc (.int .i64 n.fr),.sc (.int .i64 n.to),.sc (.int .i64 n.known),.sc (.int .i64 n.tab.den),.sl .lost n.tab.ps.length (rows FF n.tab.ps),.sl (.row 0 11) w2_9.length (A7 w2_9),.sc (.int .i64 n.att)]),(1,.cells [.sc (.int .i64 0),.sc (.string ByteArray.empty),.sc (.string ByteArray.empty),.sc (.int .i64 0),.sc (.int .i64 0),.sc (.int .i64 0),.sc (.int .i64 0),.sc (.int .i64 0),.sl .full 0 [],.sl .full 0 [],.sc (.int .i64 0)]),(0,.cells (A9 n))],3,[(0,w2_9.length)],1⟩) (fun (w2_9:(List Nd)) (jx:List Value)=>fr 66 [(10,.ptr 1 0),(11,.ptr 2 0)] [17,18,21,22,23,27,28,33,35,38,40,47] jx) (fun (w2_9:(List Nd))=>⟨[(2,.cells [.sc (.int .i64 n.kind),.sc (.string to),.sc (.string n.unit),.sc (.int .i64 n.n),.sc (.int .i64 n.fr),.sc (.int .i64 n.to),.sc (.int .i64 n.known),.sc (.int .i64 n.tab.den),.sl .lost n.tab.ps.length (rows FF n.tab.ps),.sl (.row 0 11) w2_9.length (A7 w2_9),.sc (.int .i64 n.att)]),(1,.cells [.sc (.int .i64 0),.sc (.string ByteArray.empty),.sc (.string ByteArray.empty),.sc (.int .i64 0),.sc (.int .i64 0),.sc (.int .i64 0),.sc (.int .i64 0),.sc (.int .i64 0),.sl .full 0 [],.sl .full 0 [],.sc (.int .i64 0)]),(0,.cells (A9 n))],3,[(0,w2_9.length)],1⟩) [.bool true,.bool true,undef,.bool true,.bool true,.bool true,.bool true,.bool false,.bool false,.bool false,.bool false] (DG [.b 2 9 11] 1 (sb LJ 1012) [.code (sb LJ 127)] (Aa 300 [pb hb1,pb hb2,pb hb3,pb hb4]) (by kernel_rfl)) ?_ ?_ ?_ (fun v h=>by cases h;exact .outer .body)
 rintro i2 w2_9 j2 hge hq
 exact BV (Aa 300 [pb (II hge)]) (by kernel_rfl) (hq (js 12 j2 [(11,.bool false)]))
 rintro i2 e2 w2_9 j2 r he2 hi2 mi2 k
 show Di Al from_ to a b i2 e2 w2_9=some r→_
 unfold Di
 refine Aj fun y10 hy10=>?_
 refine Hy fun hl11=>?_
 rintro ⟨⟩
 exact C9 (Aa 300 [pb (F5 hi2),TH,CL (Bu .lost he2),Ak (Bb hy10),K3 (Ir (.row 0 11) w2_9 [y10] (o:=.full) (n:=1) (ns:=(A9 y10)) (Am.wn [y10] (.r (.r (.r (.r (.r (.r (.r (.r (.r (.r (.r .nil)))))))))))) rfl rfl (by simp) (by simpa using hl11)),pi mi2]) (by kernel_rfl) (k (js 12 j2 [(11,.bool true)]))
 rintro w2_9_12 jx_12
 intro h
 have hE:=Option.some.inj h
 subst hE
 exact AA (v:=.agg [.sc (.int .i64 n.kind),.sc (.string to),.sc (.string n.unit),.sc (.int .i64 n.n),.sc (.int .i64 n.fr),.sc (.int .i64 n.to),.sc (.int .i64 n.known),.sc (.int .i64 n.tab.den),.sl .lost n.tab.ps.length (rows FF n.tab.ps),.sl (.row 0 11) w2_9_12.length (A7 w2_9_12),.sc (.int .i64 n.att)]) _ _ (BU 300 []) (by kernel_rfl) .body (.wn (.g (.r (.r (.r (.r (.r (.r (.r (.r (.r (.s rfl (.r .nil))))))))))) .nil) (Am.F1 (⟨n.kind,to,n.unit,n.n,n.fr,n.to,n.known,n.tab,w2_9_12,n.att⟩:Nd)))
 refine Ae (fun hb5=>?_) fun hb5=>?_
 refine DJ (fun Q v=>DI P Tryz.f21 0 Q (.agg (A9 v))) (fun i3 (w2_9:(List Nd)) (j3:List Value)=>fr 66 [(1,.sc (.string from_)),(2,.sc (.string to)),(3,.sc (.string a)),(4,.sc (.string b)),(5,.ptr 0 0),(10,.ptr 1 0),(11,.ptr 2 0),(12,.sc (.int .i64 ((i3:Nat):Int)))] [17,18,21,22,23,27,28,33,35,38,40,47] j3) (fun (w2_9:(List Nd))=>⟨[(2,.cells [.sc (.int .i64 n.kind),.sc (.string n.name),.sc (.string b),.sc (.int .i64 n.n),.sc (.int .i64 n.fr),.sc (.int .i64 n.to),.sc (.int .i64 n.known),.sc (.int .i64 n.tab.den),.sl .lost n.tab.ps.length (rows FF n.tab.ps),.sl (.row 0 11) w2_9.length (A7 w2_9),.sc (.int .i64 n.att)]),(1,.cells [.sc (.int .i64 0),.sc (.string ByteArray.empty),.sc (.string ByteArray.empty),.sc (.int .i64 0),.sc (.int .i64 0),.sc (.int .i64 0),.sc (.int .i64 0),.sc (.int .i64 0),.sl .full 0 [],.sl .full 0 [],.sc (.int .i64 0)]),(0,.cells (A9 n))],3,[(0,w2_9.length)],1⟩) (fun (w2_9:(List Nd)) (jx:List Value)=>fr 66 [(10,.ptr 1 0),(11,.ptr 2 0)] [17,18,21,22,23,27,28,33,35,38,40,47] jx) (fun (w2_9:(List Nd))=>⟨[(2,.cells [.sc (.int .i64 n.kind),.sc (.string n.name),.sc (.string b),.sc (.int .i64 n.n),.sc (.int .i64 n.fr),.sc (.int .i64 n.to),.sc (.int .i64 n.known),.sc (.int .i64 n.tab.den),.sl .lost n.tab.ps.length (rows FF n.tab.ps),.sl (.row 0 11) w2_9.length (A7 w2_9),.sc (.int .i64 n.att)]),(1,.cells [.sc (.int .i64 0),.sc (.string ByteArray.empty),.sc (.string ByteArray.empty),.sc (.int .i64 0),.sc (.int .i64 0),.sc (.int .i64 0),.sc (.int .i64 0),.sc (.int .i64 0),.sl .full 0 [],.sl .full 0 [],.sc (.int .i64 0)]),(0,.cells (A9 n))],3,[(0,w2_9.length)],1⟩) [.bool true,.bool true,undef,.bool true,.bool true,.bool false,.bool false,.bool true,.bool true] (DG [.b 2 9 11] 1 (sb LJ 1012) [.code (sb LJ 127)] (Aa 300 [pb hb1,pb hb2,pb hb5]) (by kernel_rfl)) ?_ ?_ ?_ (fun v h=>by cases h;exact .outer .body)
 rintro i3 w2_9 j3 hge hq
 exact BV (Aa 300 [pb (II hge)]) (by kernel_rfl) (hq (js 12 j3 [(11,.bool false)]))
 rintro i3 e3 w2_9 j3 r he3 hi3 mi3 k
 show B3 Al from_ to a b i3 e3 w2_9=some r→_
 unfold B3
 refine Aj fun y14 hy14=>?_
 refine Hy fun hl15=>?_
 rintro ⟨⟩
 exact C9 (Aa 300 [pb (F5 hi3),TH,CL (Bu .lost he3),Ak (Bb hy14),K3 (Ir (.row 0 11) w2_9 [y14] (o:=.full) (n:=1) (ns:=(A9 y14)) (Am.wn [y14] (.r (.r (.r (.r (.r (.r (.r (.r (.r (.r (.r .nil)))))))))))) rfl rfl (by simp) (by simpa using hl15)),pi mi3]) (by kernel_rfl) (k (js 12 j3 [(11,.bool true)]))
 rintro w2_9_16 jx_16
 intro h
 have hE:=Option.some.inj h
 subst hE
 exact AA (v:=.agg [.sc (.int .i64 n.kind),.sc (.string n.name),.sc (.string b),.sc (.int .i64 n.n),.sc (.int .i64 n.fr),.sc (.int .i64 n.to),.sc (.int .i64 n.known),.sc (.int .i64 n.tab.den),.sl .lost n.tab.ps.length (rows FF n.tab.ps),.sl (.row 0 11) w2_9_16.length (A7 w2_9_16),.sc (.int .i64 n.att)]) _ _ (BU 300 []) (by kernel_rfl) .body (.wn (.g (.r (.r (.r (.r (.r (.r (.r (.r (.r (.s rfl (.r .nil))))))))))) .nil) (Am.F1 (⟨n.kind,n.name,b,n.n,n.fr,n.to,n.known,n.tab,w2_9_16,n.att⟩:Nd)))
 refine Ae (fun hb6=>?_) fun hb6=>?_
 refine DJ (fun Q v=>DI P Tryz.f21 0 Q (.agg (A9 v))) (fun i4 (w2_9:(List Nd)) (j4:List Value)=>fr 66 [(1,.sc (.string from_)),(2,.sc (.string to)),(3,.sc (.string a)),(4,.sc (.string b)),(5,.ptr 0 0),(10,.ptr 1 0),(11,.ptr 2 0),(12,.sc (.int .i64 ((i4:Nat):Int)))] [17,18,21,22,23,27,28,33,35,38,40,47] j4) (fun (w2_9:(List Nd))=>⟨[(2,.cells [.sc (.int .i64 n.kind),.sc (.string n.name),.sc (.string a),.sc (.int .i64 n.n),.sc (.int .i64 n.fr),.sc (.int .i64 n.to),.sc (.int .i64 n.known),.sc (.int .i64 n.tab.den),.sl .lost n.tab.ps.length (rows FF n.tab.ps),.sl (.row 0 11) w2_9.length (A7 w2_9),.sc (.int .i64 n.att)]),(1,.cells [.sc (.int .i64 0),.sc (.string ByteArray.empty),.sc (.string ByteArray.empty),.sc (.int .i64 0),.sc (.int .i64 0),.sc (.int .i64 0),.sc (.int .i64 0),.sc (.int .i64 0),.sl .full 0 [],.sl .full 0 [],.sc (.int .i64 0)]),(0,.cells (A9 n))],3,[(0,w2_9.length)],1⟩) (fun (w2_9:(List Nd)) (jx:List Value)=>fr 66 [(10,.ptr 1 0),(11,.ptr 2 0)] [17,18,21,22,23,27,28,33,35,38,40,47] jx) (fun (w2_9:(List Nd))=>⟨[(2,.cells [.sc (.int .i64 n.kind),.sc (.string n.name),.sc (.string a),.sc (.int .i64 n.n),.sc (.int .i64 n.fr),.sc (.int .i64 n.to),.sc (.int .i64 n.known),.sc (.int .i64 n.tab.den),.sl .lost n.tab.ps.length (rows FF n.tab.ps),.sl (.row 0 11) w2_9.length (A7 w2_9),.sc (.int .i64 n.att)]),(1,.cells [.sc (.int .i64 0),.sc (.string ByteArray.empty),.sc (.string ByteArray.empty),.sc (.int .i64 0),.sc (.int .i64 0),.sc (.int .i64 0),.sc (.int .i64 0),.sc (.int .i64 0),.sl .full 0 [],.sl .full 0 [],.sc (.int .i64 0)]),(0,.cells (A9 n))],3,[(0,w2_9.length)],1⟩) [.bool true,.bool true,undef,.bool true,.bool true,.bool false,.bool false,.bool false,.bool false,.bool true,.bool true] (DG [.b 2 9 11] 1 (sb LJ 1012) [.code (sb LJ 127)] (Aa 300 [pb hb1,pb hb2,pb hb5,pb hb6]) (by kernel_rfl)) ?_ ?_ ?_ (fun v h=>by cases h;exact .outer .body)
 rintro i4 w2_9 j4 hge hq
 exact BV (Aa 300 [pb (II hge)]) (by kernel_rfl) (hq (js 12 j4 [(11,.bool false)]))
 rintro i4 e4 w2_9 j4 r he4 hi4 mi4 k
 show B2 Al from_ to a b i4 e4 w2_9=some r→_
 unfold B2
 refine Aj fun y18 hy18=>?_
 refine Hy fun hl19=>?_
 rintro ⟨⟩
 exact C9 (Aa 300 [pb (F5 hi4),TH,CL (Bu .lost he4),Ak (Bb hy18),K3 (Ir (.row 0 11) w2_9 [y18] (o:=.full) (n:=1) (ns:=(A9 y18)) (Am.wn [y18] (.r (.r (.r (.r (.r (.r (.r (.r (.r (.r (.r .nil)))))))))))) rfl rfl (by simp) (by simpa using hl19)),pi mi4]) (by kernel_rfl) (k (js 12 j4 [(11,.bool true)]))
 rintro w2_9_20 jx_20
 intro h
 have hE:=Option.some.inj h
 subst hE
 exact AA (v:=.agg [.sc (.int .i64 n.kind),.sc (.string n.name),.sc (.string a),.sc (.int .i64 n.n),.sc (.int .i64 n.fr),.sc (.int .i64 n.to),.sc (.int .i64 n.known),.sc (.int .i64 n.tab.den),.sl .lost n.tab.ps.length (rows FF n.tab.ps),.sl (.row 0 11) w2_9_20.length (A7 w2_9_20),.sc (.int .i64 n.att)]) _ _ (BU 300 []) (by kernel_rfl) .body (.wn (.g (.r (.r (.r (.r (.r (.r (.r (.r (.r (.s rfl (.r .nil))))))))))) .nil) (Am.F1 (⟨n.kind,n.name,a,n.n,n.fr,n.to,n.known,n.tab,w2_9_20,n.att⟩:Nd)))
 refine DJ (fun Q v=>DI P Tryz.f21 0 Q (.agg (A9 v))) (fun i5 (w2_9:(List Nd)) (j5:List Value)=>fr 66 [(1,.sc (.string from_)),(2,.sc (.string to)),(3,.sc (.string a)),(4,.sc (.string b)),(5,.ptr 0 0),(10,.ptr 1 0),(11,.ptr 2 0),(12,.sc (.int .i64 ((i5:Nat):Int)))] [17,18,21,22,23,27,28,33,35,38,40,47] j5) (fun (w2_9:(List Nd))=>⟨[(2,.cells [.sc (.int .i64 n.kind),.sc (.string n.name),.sc (.string n.unit),.sc (.int .i64 n.n),.sc (.int .i64 n.fr),.sc (.int .i64 n.to),.sc (.int .i64 n.known),.sc (.int .i64 n.tab.den),.sl .lost n.tab.ps.length (rows FF n.tab.ps),.sl (.row 0 11) w2_9.length (A7 w2_9),.sc (.int .i64 n.att)]),(1,.cells [.sc (.int .i64 0),.sc (.string ByteArray.empty),.sc (.string ByteArray.empty),.sc (.int .i64 0),.sc (.int .i64 0),.sc (.int .i64 0),.sc (.int .i64 0),.sc (.int .i64 0),.sl .full 0 [],.sl .full 0 [],.sc (.int .i64 0)]),(0,.cells (A9 n))],3,[(0,w2_9.length)],1⟩) (fun (w2_9:(List Nd)) (jx:List Value)=>fr 66 [(10,.ptr 1 0),(11,.ptr 2 0)] [17,18,21,22,23,27,28,33,35,38,40,47] jx) (fun (w2_9:(List Nd))=>⟨[(2,.cells [.sc (.int .i64 n.kind),.sc (.string n.name),.sc (.string n.unit),.sc (.int .i64 n.n),.sc (.int .i64 n.fr),.sc (.int .i64 n.to),.sc (.int .i64 n.known),.sc (.int .i64 n.tab.den),.sl .lost n.tab.ps.length (rows FF n.tab.ps),.sl (.row 0 11) w2_9.length (A7 w2_9),.sc (.int .i64 n.att)]),(1,.cells [.sc (.int .i64 0),.sc (.string ByteArray.empty),.sc (.string ByteArray.empty),.sc (.int .i64 0),.sc (.int .i64 0),.sc (.int .i64 0),.sc (.int .i64 0),.sc (.int .i64 0),.sl .full 0 [],.sl .full 0 [],.sc (.int .i64 0)]),(0,.cells (A9 n))],3,[(0,w2_9.length)],1⟩) [.bool true,.bool true,undef,.bool true,.bool true,.bool false,.bool false,.bool false,.bool false,.bool false,.bool false] (DG [.b 2 9 11] 1 (sb LJ 1012) [.code (sb LJ 127)] (Aa 300 [pb hb1,pb hb2,pb hb5,pb hb6]) (by kernel_rfl)) ?_ ?_ ?_ (fun v h=>by cases h;exact .outer .body)
 rintro i5 w2_9 j5 hge hq
 exact BV (Aa 300 [pb (II hge)]) (by kernel_rfl) (hq (js 12 j5 [(11,.bool false)]))
 rintro i5 e5 w2_9 j5 r he5 hi5 mi5 k
 show B1 Al from_ to a b i5 e5 w2_9=some r→_
 unfold B1
 refine Aj fun y22 hy22=>?_
 refine Hy fun hl23=>?_
 rintro ⟨⟩
 exact C9 (Aa 300 [pb (F5 hi5),TH,CL (Bu .lost he5),Ak (Bb hy22),K3 (Ir (.row 0 11) w2_9 [y22] (o:=.full) (n:=1) (ns:=(A9 y22)) (Am.wn [y22] (.r (.r (.r (.r (.r (.r (.r (.r (.r (.r (.r .nil)))))))))))) rfl rfl (by simp) (by simpa using hl23)),pi mi5]) (by kernel_rfl) (k (js 12 j5 [(11,.bool true)]))
 rintro w2_9_24 jx_24
 intro h
 have hE:=Option.some.inj h
 subst hE
 exact AA (v:=.agg [.sc (.int .i64 n.kind),.sc (.string n.name),.sc (.string n.unit),.sc (.int .i64 n.n),.sc (.int .i64 n.fr),.sc (.int .i64 n.to),.sc (.int .i64 n.known),.sc (.int .i64 n.tab.den),.sl .lost n.tab.ps.length (rows FF n.tab.ps),.sl (.row 0 11) w2_9_24.length (A7 w2_9_24),.sc (.int .i64 n.att)]) _ _ (BU 300 []) (by kernel_rfl) .body (.wn (.g (.r (.r (.r (.r (.r (.r (.r (.r (.r (.s rfl (.r .nil))))))))))) .nil) (Am.F1 (⟨n.kind,n.name,n.unit,n.n,n.fr,n.to,n.known,n.tab,w2_9_24,n.att⟩:Nd)))
 refine Ae (fun hb7=>?_) fun hb7=>?_
 let o1:List (PC P G):=[pb hb1,pb hb7]
 refine Ae (fun hb8=>?_) fun hb8=>?_
 refine Ae (fun hb9=>?_) fun hb9=>?_
 refine DJ (fun Q v=>DI P Tryz.f21 0 Q (.agg (A9 v))) (fun i0 (w2_9:(List Nd)) (j0:List Value)=>fr 66 [(1,.sc (.string from_)),(2,.sc (.string to)),(3,.sc (.string a)),(4,.sc (.string b)),(5,.ptr 0 0),(10,.ptr 1 0),(11,.ptr 2 0),(12,.sc (.int .i64 ((i0:Nat):Int)))] [17,18,21,22,23,27,28,33,35,38,40,47] j0) (fun (w2_9:(List Nd))=>⟨[(2,.cells [.sc (.int .i64 n.kind),.sc (.string to),.sc (.string b),.sc (.int .i64 n.n),.sc (.int .i64 n.fr),.sc (.int .i64 n.to),.sc (.int .i64 n.known),.sc (.int .i64 n.tab.den),.sl .lost n.tab.ps.length (rows FF n.tab.ps),.sl (.row 0 11) w2_9.length (A7 w2_9),.sc (.int .i64 n.att)]),(1,.cells [.sc (.int .i64 0),.sc (.string ByteArray.empty),.sc (.string ByteArray.empty),.sc (.int .i64 0),.sc (.int .i64 0),.sc (.int .i64 0),.sc (.int .i64 0),.sc (.int .i64 0),.sl .full 0 [],.sl .full 0 [],.sc (.int .i64 0)]),(0,.cells (A9 n))],3,[(0,w2_9.length)],1⟩) (fun (w2_9:(List Nd)) (jx:List Value)=>fr 66 [(10,.ptr 1 0),(11,.ptr 2 0)] [17,18,21,22,23,27,28,33,35,38,40,47] jx) (fun (w2_9:(List Nd))=>⟨[(2,.cells [.sc (.int .i64 n.kind),.sc (.string to),.sc (.string b),.sc (.int .i64 n.n),.sc (.int .i64 n.fr),.sc (.int .i64 n.to),.sc (.int .i64 n.known),.sc (.int .i64 n.tab.den),.sl .lost n.tab.ps.length (rows FF n.tab.ps),.sl (.row 0 11) w2_9.length (A7 w2_9),.sc (.int .i64 n.att)]),(1,.cells [.sc (.int .i64 0),.sc (.string ByteArray.empty),.sc (.string ByteArray.empty),.sc (.int .i64 0),.sc (.int .i64 0),.sc (.int .i64 0),.sc (.int .i64 0),.sc (.int .i64 0),.sl .full 0 [],.sl .full 0 [],.sc (.int .i64 0)]),(0,.cells (A9 n))],3,[(0,w2_9.length)],1⟩) [.bool false,.bool false,.bool true,.bool true,.bool true,.bool true,.bool true,.bool true,.bool true] (DG [.b 2 9 11] 1 (sb LJ 1012) [.code (sb LJ 127)] (Aa 300 (o1++[pb hb8,pb hb9])) (by kernel_rfl)) ?_ ?_ ?_ (fun v h=>by cases h;exact .outer .body)
 rintro i0 w2_9 j0 hge hq
 exact BV (Aa 300 [pb (II hge)]) (by kernel_rfl) (hq (js 12 j0 [(11,.bool false)]))
 rintro i0 e0 w2_9 j0 r he0 hi0 mi0 k
 show Dk Al from_ to a b i0 e0 w2_9=some r→_
 unfold Dk
 refine Aj fun y2 hy2=>?_
 refine Hy fun hl3=>?_
 rintro ⟨⟩
 exact C9 (Aa 300 [pb (F5 hi0),TH,CL (Bu .lost he0),Ak (Bb hy2),K3 (Ir (.row 0 11) w2_9 [y2] (o:=.full) (n:=1) (ns:=(A9 y2)) (Am.wn [y2] (.r (.r (.r (.r (.r (.r (.r (.r (.r (.r (.r .nil)))))))))))) rfl rfl (by simp) (by simpa using hl3)),pi mi0]) (by kernel_rfl) (k (js 12 j0 [(11,.bool true)]))
 rintro w2_9_25 jx_25
 intro h
 have hE:=Option.some.inj h
 subst hE
 exact AA (v:=.agg [.sc (.int .i64 n.kind),.sc (.string to),.sc (.string b),.sc (.int .i64 n.n),.sc (.int .i64 n.fr),.sc (.int .i64 n.to),.sc (.int .i64 n.known),.sc (.int .i64 n.tab.den),.sl .lost n.tab.ps.length (rows FF n.tab.ps),.sl (.row 0 11) w2_9_25.length (A7 w2_9_25),.sc (.int .i64 n.att)]) _ _ (BU 300 []) (by kernel_rfl) .body (.wn (.g (.r (.r (.r (.r (.r (.r (.r (.r (.r (.s rfl (.r .nil))))))))))) .nil) (Am.F1 (⟨n.kind,to,b,n.n,n.fr,n.to,n.known,n.tab,w2_9_25,n.att⟩:Nd)))
 refine Ae (fun hb10=>?_) fun hb10=>?_
 refine DJ (fun Q v=>DI P Tryz.f21 0 Q (.agg (A9 v))) (fun i1 (w2_9:(List Nd)) (j1:List Value)=>fr 66 [(1,.sc (.string from_)),(2,.sc (.string to)),(3,.sc (.string a)),(4,.sc (.string b)),(5,.ptr 0 0),(10,.ptr 1 0),(11,.ptr 2 0),(12,.sc (.int .i64 ((i1:Nat):Int)))] [17,18,21,22,23,27,28,33,35,38,40,47] j1) (fun (w2_9:(List Nd))=>⟨[(2,.cells [.sc (.int .i64 n.kind),.sc (.string to),.sc (.string a),.sc (.int .i64 n.n),.sc (.int .i64 n.fr),.sc (.int .i64 n.to),.sc (.int .i64 n.known),.sc (.int .i64 n.tab.den),.sl .lost n.tab.ps.length (rows FF n.tab.ps),.sl (.row 0 11) w2_9.length (A7 w2_9),.sc (.int .i64 n.att)]),(1,.cells [.sc (.int .i64 0),.sc (.string ByteArray.empty),.sc (.string ByteArray.empty),.sc (.int .i64 0),.sc (.int .i64 0),.sc (.int .i64 0),.sc (.int .i64 0),.sc (.int .i64 0),.sl .full 0 [],.sl .full 0 [],.sc (.int .i64 0)]),(0,.cells (A9 n))],3,[(0,w2_9.length)],1⟩) (fun (w2_9:(List Nd)) (jx:List Value)=>fr 66 [(10,.ptr 1 0),(11,.ptr 2 0)] [17,18,21,22,23,27,28,33,35,38,40,47] jx) (fun (w2_9:(List Nd))=>⟨[(2,.cells [.sc (.int .i64 n.kind),.sc (.string to),.sc (.string a),.sc (.int .i64 n.n),.sc (.int .i64 n.fr),.sc (.int .i64 n.to),.sc (.int .i64 n.known),.sc (.int .i64 n.tab.den),.sl .lost n.tab.ps.length (rows FF n.tab.ps),.sl (.row 0 11) w2_9.length (A7 w2_9),.sc (.int .i64 n.att)]),(1,.cells [.sc (.int .i64 0),.sc (.string ByteArray.empty),.sc (.string ByteArray.empty),.sc (.int .i64 0),.sc (.int .i64 0),.sc (.int .i64 0),.sc (.int .i64 0),.sc (.int .i64 0),.sl .full 0 [],.sl .full 0 [],.sc (.int .i64 0)]),(0,.cells (A9 n))],3,[(0,w2_9.length)],1⟩) [.bool false,.bool false,.bool true,.bool true,.bool true,.bool true,.bool true,.bool false,.bool false,.bool true,.bool true] (DG [.b 2 9 11] 1 (sb LJ 1012) [.code (sb LJ 127)] (Aa 300 (o1++[pb hb8,pb hb9,pb hb10])) (by kernel_rfl)) ?_ ?_ ?_ (fun v h=>by cases h;exact .outer .body)
 rintro i1 w2_9 j1 hge hq
 exact BV (Aa 300 [pb (II hge)]) (by kernel_rfl) (hq (js 12 j1 [(11,.bool false)]))
 rintro i1 e1 w2_9 j1 r he1 hi1 mi1 k
 show Dj Al from_ to a b i1 e1 w2_9=some r→_
 unfold Dj
 refine Aj fun y6 hy6=>?_
 refine Hy fun hl7=>?_
 rintro ⟨⟩
 exact C9 (Aa 300 [pb (F5 hi1),TH,CL (Bu .lost he1),Ak (Bb hy6),K3 (Ir (.row 0 11) w2_9 [y6] (o:=.full) (n:=1) (ns:=(A9 y6)) (Am.wn [y6] (.r (.r (.r (.r (.r (.r (.r (.r (.r (.r (.r .nil)))))))))))) rfl rfl (by simp) (by simpa using hl7)),pi mi1]) (by kernel_rfl) (k (js 12 j1 [(11,.bool true)]))
 rintro w2_9_26 jx_26
 intro h
 have hE:=Option.some.inj h
 subst hE
 exact AA (v:=.agg [.sc (.int .i64 n.kind),.sc (.string to),.sc (.string a),.sc (.int .i64 n.n),.sc (.int .i64 n.fr),.sc (.int .i64 n.to),.sc (.int .i64 n.known),.sc (.int .i64 n.tab.den),.sl .lost n.tab.ps.length (rows FF n.tab.ps),.sl (.row 0 11) w2_9_26.length (A7 w2_9_26),.sc (.int .i64 n.att)]) _ _ (BU 300 []) (by kernel_rfl) .body (.wn (.g (.r (.r (.r (.r (.r (.r (.r (.r (.r (.s rfl (.r .nil))))))))))) .nil) (Am.F1 (⟨n.kind,to,a,n.n,n.fr,n.to,n.known,n.tab,w2_9_26,n.att⟩:Nd)))
 refine DJ (fun Q v=>DI P Tryz.f21 0 Q (.agg (A9 v))) (fun i2 (w2_9:(List Nd)) (j2:List Value)=>fr 66 [(1,.sc (.string from_)),(2,.sc (.string to)),(3,.sc (.string a)),(4,.sc (.string b)),(5,.ptr 0 0),(10,.ptr 1 0),(11,.ptr 2 0),(12,.sc (.int .i64 ((i2:Nat):Int)))] [17,18,21,22,23,27,28,33,35,38,40,47] j2) (fun (w2_9:(List Nd))=>⟨[(2,.cells [.sc (.int .i64 n.kind),.sc (.string to),.sc (.string n.unit),.sc (.int .i64 n.n),.sc (.int .i64 n.fr),.sc (.int .i64 n.to),.sc (.int .i64 n.known),.sc (.int .i64 n.tab.den),.sl .lost n.tab.ps.length (rows FF n.tab.ps),.sl (.row 0 11) w2_9.length (A7 w2_9),.sc (.int .i64 n.att)]),(1,.cells [.sc (.int .i64 0),.sc (.string ByteArray.empty),.sc (.string ByteArray.empty),.sc (.int .i64 0),.sc (.int .i64 0),.sc (.int .i64 0),.sc (.int .i64 0),.sc (.int .i64 0),.sl .full 0 [],.sl .full 0 [],.sc (.int .i64 0)]),(0,.cells (A9 n))],3,[(0,w2_9.length)],1⟩) (fun (w2_9:(List Nd)) (jx:List Value)=>fr 66 [(10,.ptr 1 0),(11,.ptr 2 0)] [17,18,21,22,23,27,28,33,35,38,40,47] jx) (fun (w2_9:(List Nd))=>⟨[(2,.cells [.sc (.int .i64 n.kind),.sc (.string to),.sc (.string n.unit),.sc (.int .i64 n.n),.sc (.int .i64 n.fr),.sc (.int .i64 n.to),.sc (.int .i64 n.known),.sc (.int .i64 n.tab.den),.sl .lost n.tab.ps.length (rows FF n.tab.ps),.sl (.row 0 11) w2_9.length (A7 w2_9),.sc (.int .i64 n.att)]),(1,.cells [.sc (.int .i64 0),.sc (.string ByteArray.empty),.sc (.string ByteArray.empty),.sc (.int .i64 0),.sc (.int .i64 0),.sc (.int .i64 0),.sc (.int .i64 0),.sc (.int .i64 0),.sl .full 0 [],.sl .full 0 [],.sc (.int .i64 0)]),(0,.cells (A9 n))],3,[(0,w2_9.length)],1⟩) [.bool false,.bool false,.bool true,.bool true,.bool true,.bool true,.bool true,.bool false,.bool false,.bool false,.bool false] (DG [.b 2 9 11] 1 (sb LJ 1012) [.code (sb LJ 127)] (Aa 300 (o1++[pb hb8,pb hb9,pb hb10])) (by kernel_rfl)) ?_ ?_ ?_ (fun v h=>by cases h;exact .outer .body)
 rintro i2 w2_9 j2 hge hq
 exact BV (Aa 300 [pb (II hge)]) (by kernel_rfl) (hq (js 12 j2 [(11,.bool false)]))
 rintro i2 e2 w2_9 j2 r he2 hi2 mi2 k
 show Di Al from_ to a b i2 e2 w2_9=some r→_
 unfold Di
 refine Aj fun y10 hy10=>?_
 refine Hy fun hl11=>?_
 rintro ⟨⟩
 exact C9 (Aa 300 [pb (F5 hi2),TH,CL (Bu .lost he2),Ak (Bb hy10),K3 (Ir (.row 0 11) w2_9 [y10] (o:=.full) (n:=1) (ns:=(A9 y10)) (Am.wn [y10] (.r (.r (.r (.r (.r (.r (.r (.r (.r (.r (.r .nil)))))))))))) rfl rfl (by simp) (by simpa using hl11)),pi mi2]) (by kernel_rfl) (k (js 12 j2 [(11,.bool true)]))
 rintro w2_9_27 jx_27
 intro h
 have hE:=Option.some.inj h
 subst hE
 exact AA (v:=.agg [.sc (.int .i64 n.kind),.sc (.string to),.sc (.string n.unit),.sc (.int .i64 n.n),.sc (.int .i64 n.fr),.sc (.int .i64 n.to),.sc (.int .i64 n.known),.sc (.int .i64 n.tab.den),.sl .lost n.tab.ps.length (rows FF n.tab.ps),.sl (.row 0 11) w2_9_27.length (A7 w2_9_27),.sc (.int .i64 n.att)]) _ _ (BU 300 []) (by kernel_rfl) .body (.wn (.g (.r (.r (.r (.r (.r (.r (.r (.r (.r (.s rfl (.r .nil))))))))))) .nil) (Am.F1 (⟨n.kind,to,n.unit,n.n,n.fr,n.to,n.known,n.tab,w2_9_27,n.att⟩:Nd)))
 refine Ae (fun hb11=>?_) fun hb11=>?_
 refine DJ (fun Q v=>DI P Tryz.f21 0 Q (.agg (A9 v))) (fun i3 (w2_9:(List Nd)) (j3:List Value)=>fr 66 [(1,.sc (.string from_)),(2,.sc (.string to)),(3,.sc (.string a)),(4,.sc (.string b)),(5,.ptr 0 0),(10,.ptr 1 0),(11,.ptr 2 0),(12,.sc (.int .i64 ((i3:Nat):Int)))] [17,18,21,22,23,27,28,33,35,38,40,47] j3) (fun (w2_9:(List Nd))=>⟨[(2,.cells [.sc (.int .i64 n.kind),.sc (.string n.name),.sc (.string b),.sc (.int .i64 n.n),.sc (.int .i64 n.fr),.sc (.int .i64 n.to),.sc (.int .i64 n.known),.sc (.int .i64 n.tab.den),.sl .lost n.tab.ps.length (rows FF n.tab.ps),.sl (.row 0 11) w2_9.length (A7 w2_9),.sc (.int .i64 n.att)]),(1,.cells [.sc (.int .i64 0),.sc (.string ByteArray.empty),.sc (.string ByteArray.empty),.sc (.int .i64 0),.sc (.int .i64 0),.sc (.int .i64 0),.sc (.int .i64 0),.sc (.int .i64 0),.sl .full 0 [],.sl .full 0 [],.sc (.int .i64 0)]),(0,.cells (A9 n))],3,[(0,w2_9.length)],1⟩) (fun (w2_9:(List Nd)) (jx:List Value)=>fr 66 [(10,.ptr 1 0),(11,.ptr 2 0)] [17,18,21,22,23,27,28,33,35,38,40,47] jx) (fun (w2_9:(List Nd))=>⟨[(2,.cells [.sc (.int .i64 n.kind),.sc (.string n.name),.sc (.string b),.sc (.int .i64 n.n),.sc (.int .i64 n.fr),.sc (.int .i64 n.to),.sc (.int .i64 n.known),.sc (.int .i64 n.tab.den),.sl .lost n.tab.ps.length (rows FF n.tab.ps),.sl (.row 0 11) w2_9.length (A7 w2_9),.sc (.int .i64 n.att)]),(1,.cells [.sc (.int .i64 0),.sc (.string ByteArray.empty),.sc (.string ByteArray.empty),.sc (.int .i64 0),.sc (.int .i64 0),.sc (.int .i64 0),.sc (.int .i64 0),.sc (.int .i64 0),.sl .full 0 [],.sl .full 0 [],.sc (.int .i64 0)]),(0,.cells (A9 n))],3,[(0,w2_9.length)],1⟩) [.bool false,.bool false,.bool true,.bool true,.bool true,.bool false,.bool false,.bool true,.bool true] (DG [.b 2 9 11] 1 (sb LJ 1012) [.code (sb LJ 127)] (Aa 300 (o1++[pb hb8,pb hb11])) (by kernel_rfl)) ?_ ?_ ?_ (fun v h=>by cases h;exact .outer .body)
 rintro i3 w2_9 j3 hge hq
 exact BV (Aa 300 [pb (II hge)]) (by kernel_rfl) (hq (js 12 j3 [(11,.bool false)]))
 rintro i3 e3 w2_9 j3 r he3 hi3 mi3 k
 show B3 Al from_ to a b i3 e3 w2_9=some r→_
 unfold B3
 refine Aj fun y14 hy14=>?_
 refine Hy fun hl15=>?_
 rintro ⟨⟩
 exact C9 (Aa 300 [pb (F5 hi3),TH,CL (Bu .lost he3),Ak (Bb hy14),K3 (Ir (.row 0 11) w2_9 [y14] (o:=.full) (n:=1) (ns:=(A9 y14)) (Am.wn [y14] (.r (.r (.r (.r (.r (.r (.r (.r (.r (.r (.r .nil)))))))))))) rfl rfl (by simp) (by simpa using hl15)),pi mi3]) (by kernel_rfl) (k (js 12 j3 [(11,.bool true)]))
 rintro w2_9_28 jx_28
 intro h
 have hE:=Option.some.inj h
 subst hE
 exact AA (v:=.agg [.sc (.int .i64 n.kind),.sc (.string n.name),.sc (.string b),.sc (.int .i64 n.n),.sc (.int .i64 n.fr),.sc (.int .i64 n.to),.sc (.int .i64 n.known),.sc (.int .i64 n.tab.den),.sl .lost n.tab.ps.length (rows FF n.tab.ps),.sl (.row 0 11) w2_9_28.length (A7 w2_9_28),.sc (.int .i64 n.att)]) _ _ (BU 300 []) (by kernel_rfl) .body (.wn (.g (.r (.r (.r (.r (.r (.r (.r (.r (.r (.s rfl (.r .nil))))))))))) .nil) (Am.F1 (⟨n.kind,n.name,b,n.n,n.fr,n.to,n.known,n.tab,w2_9_28,n.att⟩:Nd)))
 refine Ae (fun hb12=>?_) fun hb12=>?_
 refine DJ (fun Q v=>DI P Tryz.f21 0 Q (.agg (A9 v))) (fun i4 (w2_9:(List Nd)) (j4:List Value)=>fr 66 [(1,.sc (.string from_)),(2,.sc (.string to)),(3,.sc (.string a)),(4,.sc (.string b)),(5,.ptr 0 0),(10,.ptr 1 0),(11,.ptr 2 0),(12,.sc (.int .i64 ((i4:Nat):Int)))] [17,18,21,22,23,27,28,33,35,38,40,47] j4) (fun (w2_9:(List Nd))=>⟨[(2,.cells [.sc (.int .i64 n.kind),.sc (.string n.name),.sc (.string a),.sc (.int .i64 n.n),.sc (.int .i64 n.fr),.sc (.int .i64 n.to),.sc (.int .i64 n.known),.sc (.int .i64 n.tab.den),.sl .lost n.tab.ps.length (rows FF n.tab.ps),.sl (.row 0 11) w2_9.length (A7 w2_9),.sc (.int .i64 n.att)]),(1,.cells [.sc (.int .i64 0),.sc (.string ByteArray.empty),.sc (.string ByteArray.empty),.sc (.int .i64 0),.sc (.int .i64 0),.sc (.int .i64 0),.sc (.int .i64 0),.sc (.int .i64 0),.sl .full 0 [],.sl .full 0 [],.sc (.int .i64 0)]),(0,.cells (A9 n))],3,[(0,w2_9.length)],1⟩) (fun (w2_9:(List Nd)) (jx:List Value)=>fr 66 [(10,.ptr 1 0),(11,.ptr 2 0)] [17,18,21,22,23,27,28,33,35,38,40,47] jx) (fun (w2_9:(List Nd))=>⟨[(2,.cells [.sc (.int .i64 n.kind),.sc (.string n.name),.sc (.string a),.sc (.int .i64 n.n),.sc (.int .i64 n.fr),.sc (.int .i64 n.to),.sc (.int .i64 n.known),.sc (.int .i64 n.tab.den),.sl .lost n.tab.ps.length (rows FF n.tab.ps),.sl (.row 0 11) w2_9.length (A7 w2_9),.sc (.int .i64 n.att)]),(1,.cells [.sc (.int .i64 0),.sc (.string ByteArray.empty),.sc (.string ByteArray.empty),.sc (.int .i64 0),.sc (.int .i64 0),.sc (.int .i64 0),.sc (.int .i64 0),.sc (.int .i64 0),.sl .full 0 [],.sl .full 0 [],.sc (.int .i64 0)]),(0,.cells (A9 n))],3,[(0,w2_9.length)],1⟩) [.bool false,.bool false,.bool true,.bool true,.bool true,.bool false,.bool false,.bool false,.bool false,.bool true,.bool true] (DG [.b 2 9 11] 1 (sb LJ 1012) [.code (sb LJ 127)] (Aa 300 (o1++[pb hb8,pb hb11,pb hb12])) (by kernel_rfl)) ?_ ?_ ?_ (fun v h=>by cases h;exact .outer .body)
 rintro i4 w2_9 j4 hge hq
 exact BV (Aa 300 [pb (II hge)]) (by kernel_rfl) (hq (js 12 j4 [(11,.bool false)]))
 rintro i4 e4 w2_9 j4 r he4 hi4 mi4 k
 show B2 Al from_ to a b i4 e4 w2_9=some r→_
 unfold B2
 refine Aj fun y18 hy18=>?_
 refine Hy fun hl19=>?_
 rintro ⟨⟩
 exact C9 (Aa 300 [pb (F5 hi4),TH,CL (Bu .lost he4),Ak (Bb hy18),K3 (Ir (.row 0 11) w2_9 [y18] (o:=.full) (n:=1) (ns:=(A9 y18)) (Am.wn [y18] (.r (.r (.r (.r (.r (.r (.r (.r (.r (.r (.r .nil)))))))))))) rfl rfl (by simp) (by simpa using hl19)),pi mi4]) (by kernel_rfl) (k (js 12 j4 [(11,.bool true)]))
 rintro w2_9_29 jx_29
 intro h
 have hE:=Option.some.inj h
 subst hE
 exact AA (v:=.agg [.sc (.int .i64 n.kind),.sc (.string n.name),.sc (.string a),.sc (.int .i64 n.n),.sc (.int .i64 n.fr),.sc (.int .i64 n.to),.sc (.int .i64 n.known),.sc (.int .i64 n.tab.den),.sl .lost n.tab.ps.length (rows FF n.tab.ps),.sl (.row 0 11) w2_9_29.length (A7 w2_9_29),.sc (.int .i64 n.att)]) _ _ (BU 300 []) (by kernel_rfl) .body (.wn (.g (.r (.r (.r (.r (.r (.r (.r (.r (.r (.s rfl (.r .nil))))))))))) .nil) (Am.F1 (⟨n.kind,n.name,a,n.n,n.fr,n.to,n.known,n.tab,w2_9_29,n.att⟩:Nd)))
 refine DJ (fun Q v=>DI P Tryz.f21 0 Q (.agg (A9 v))) (fun i5 (w2_9:(List Nd)) (j5:List Value)=>fr 66 [(1,.sc (.string from_)),(2,.sc (.string to)),(3,.sc (.string a)),(4,.sc (.string b)),(5,.ptr 0 0),(10,.ptr 1 0),(11,.ptr 2 0),(12,.sc (.int .i64 ((i5:Nat):Int)))] [17,18,21,22,23,27,28,33,35,38,40,47] j5) (fun (w2_9:(List Nd))=>⟨[(2,.cells [.sc (.int .i64 n.kind),.sc (.string n.name),.sc (.string n.unit),.sc (.int .i64 n.n),.sc (.int .i64 n.fr),.sc (.int .i64 n.to),.sc (.int .i64 n.known),.sc (.int .i64 n.tab.den),.sl .lost n.tab.ps.length (rows FF n.tab.ps),.sl (.row 0 11) w2_9.length (A7 w2_9),.sc (.int .i64 n.att)]),(1,.cells [.sc (.int .i64 0),.sc (.string ByteArray.empty),.sc (.string ByteArray.empty),.sc (.int .i64 0),.sc (.int .i64 0),.sc (.int .i64 0),.sc (.int .i64 0),.sc (.int .i64 0),.sl .full 0 [],.sl .full 0 [],.sc (.int .i64 0)]),(0,.cells (A9 n))],3,[(0,w2_9.length)],1⟩) (fun (w2_9:(List Nd)) (jx:List Value)=>fr 66 [(10,.ptr 1 0),(11,.ptr 2 0)] [17,18,21,22,23,27,28,33,35,38,40,47] jx) (fun (w2_9:(List Nd))=>⟨[(2,.cells [.sc (.int .i64 n.kind),.sc (.string n.name),.sc (.string n.unit),.sc (.int .i64 n.n),.sc (.int .i64 n.fr),.sc (.int .i64 n.to),.sc (.int .i64 n.known),.sc (.int .i64 n.tab.den),.sl .lost n.tab.ps.length (rows FF n.tab.ps),.sl (.row 0 11) w2_9.length (A7 w2_9),.sc (.int .i64 n.att)]),(1,.cells [.sc (.int .i64 0),.sc (.string ByteArray.empty),.sc (.string ByteArray.empty),.sc (.int .i64 0),.sc (.int .i64 0),.sc (.int .i64 0),.sc (.int .i64 0),.sc (.int .i64 0),.sl .full 0 [],.sl .full 0 [],.sc (.int .i64 0)]),(0,.cells (A9 n))],3,[(0,w2_9.length)],1⟩) [.bool false,.bool false,.bool true,.bool true,.bool true,.bool false,.bool false,.bool false,.bool false,.bool false,.bool false] (DG [.b 2 9 11] 1 (sb LJ 1012) [.code (sb LJ 127)] (Aa 300 (o1++[pb hb8,pb hb11,pb hb12])) (by kernel_rfl)) ?_ ?_ ?_ (fun v h=>by cases h;exact .outer .body)
 rintro i5 w2_9 j5 hge hq
 exact BV (Aa 300 [pb (II hge)]) (by kernel_rfl) (hq (js 12 j5 [(11,.bool false)]))
 rintro i5 e5 w2_9 j5 r he5 hi5 mi5 k
 show B1 Al from_ to a b i5 e5 w2_9=some r→_
 unfold B1
 refine Aj fun y22 hy22=>?_
 refine Hy fun hl23=>?_
 rintro ⟨⟩
 exact C9 (Aa 300 [pb (F5 hi5),TH,CL (Bu .lost he5),Ak (Bb hy22),K3 (Ir (.row 0 11) w2_9 [y22] (o:=.full) (n:=1) (ns:=(A9 y22)) (Am.wn [y22] (.r (.r (.r (.r (.r (.r (.r (.r (.r (.r (.r .nil)))))))))))) rfl rfl (by simp) (by simpa using hl23)),pi mi5]) (by kernel_rfl) (k (js 12 j5 [(11,.bool true)]))
 rintro w2_9_30 jx_30
 intro h
 have hE:=Option.some.inj h
 subst hE
 exact AA (v:=.agg [.sc (.int .i64 n.kind),.sc (.string n.name),.sc (.string n.unit),.sc (.int .i64 n.n),.sc (.int .i64 n.fr),.sc (.int .i64 n.to),.sc (.int .i64 n.known),.sc (.int .i64 n.tab.den),.sl .lost n.tab.ps.length (rows FF n.tab.ps),.sl (.row 0 11) w2_9_30.length (A7 w2_9_30),.sc (.int .i64 n.att)]) _ _ (BU 300 []) (by kernel_rfl) .body (.wn (.g (.r (.r (.r (.r (.r (.r (.r (.r (.r (.s rfl (.r .nil))))))))))) .nil) (Am.F1 (⟨n.kind,n.name,n.unit,n.n,n.fr,n.to,n.known,n.tab,w2_9_30,n.att⟩:Nd)))
 refine Ae (fun hb13=>?_) fun hb13=>?_
 refine DJ (fun Q v=>DI P Tryz.f21 0 Q (.agg (A9 v))) (fun i3 (w2_9:(List Nd)) (j3:List Value)=>fr 66 [(1,.sc (.string from_)),(2,.sc (.string to)),(3,.sc (.string a)),(4,.sc (.string b)),(5,.ptr 0 0),(10,.ptr 1 0),(11,.ptr 2 0),(12,.sc (.int .i64 ((i3:Nat):Int)))] [17,18,21,22,23,27,28,33,35,38,40,47] j3) (fun (w2_9:(List Nd))=>⟨[(2,.cells [.sc (.int .i64 n.kind),.sc (.string n.name),.sc (.string b),.sc (.int .i64 n.n),.sc (.int .i64 n.fr),.sc (.int .i64 n.to),.sc (.int .i64 n.known),.sc (.int .i64 n.tab.den),.sl .lost n.tab.ps.length (rows FF n.tab.ps),.sl (.row 0 11) w2_9.length (A7 w2_9),.sc (.int .i64 n.att)]),(1,.cells [.sc (.int .i64 0),.sc (.string ByteArray.empty),.sc (.string ByteArray.empty),.sc (.int .i64 0),.sc (.int .i64 0),.sc (.int .i64 0),.sc (.int .i64 0),.sc (.int .i64 0),.sl .full 0 [],.sl .full 0 [],.sc (.int .i64 0)]),(0,.cells (A9 n))],3,[(0,w2_9.length)],1⟩) (fun (w2_9:(List Nd)) (jx:List Value)=>fr 66 [(10,.ptr 1 0),(11,.ptr 2 0)] [17,18,21,22,23,27,28,33,35,38,40,47] jx) (fun (w2_9:(List Nd))=>⟨[(2,.cells [.sc (.int .i64 n.kind),.sc (.string n.name),.sc (.string b),.sc (.int .i64 n.n),.sc (.int .i64 n.fr),.sc (.int .i64 n.to),.sc (.int .i64 n.known),.sc (.int .i64 n.tab.den),.sl .lost n.tab.ps.length (rows FF n.tab.ps),.sl (.row 0 11) w2_9.length (A7 w2_9),.sc (.int .i64 n.att)]),(1,.cells [.sc (.int .i64 0),.sc (.string ByteArray.empty),.sc (.string ByteArray.empty),.sc (.int .i64 0),.sc (.int .i64 0),.sc (.int .i64 0),.sc (.int .i64 0),.sc (.int .i64 0),.sl .full 0 [],.sl .full 0 [],.sc (.int .i64 0)]),(0,.cells (A9 n))],3,[(0,w2_9.length)],1⟩) [.bool false,.bool false,.bool false,.bool false,.bool false,undef,.bool false,.bool true,.bool true] (DG [.b 2 9 11] 1 (sb LJ 1012) [.code (sb LJ 127)] (Aa 300 [pb hb1,pb hb7,pb hb13]) (by kernel_rfl)) ?_ ?_ ?_ (fun v h=>by cases h;exact .outer .body)
 rintro i3 w2_9 j3 hge hq
 exact BV (Aa 300 [pb (II hge)]) (by kernel_rfl) (hq (js 12 j3 [(11,.bool false)]))
 rintro i3 e3 w2_9 j3 r he3 hi3 mi3 k
 show B3 Al from_ to a b i3 e3 w2_9=some r→_
 unfold B3
 refine Aj fun y14 hy14=>?_
 refine Hy fun hl15=>?_
 rintro ⟨⟩
 exact C9 (Aa 300 [pb (F5 hi3),TH,CL (Bu .lost he3),Ak (Bb hy14),K3 (Ir (.row 0 11) w2_9 [y14] (o:=.full) (n:=1) (ns:=(A9 y14)) (Am.wn [y14] (.r (.r (.r (.r (.r (.r (.r (.r (.r (.r (.r .nil)))))))))))) rfl rfl (by simp) (by simpa using hl15)),pi mi3]) (by kernel_rfl) (k (js 12 j3 [(11,.bool true)]))
 rintro w2_9_31 jx_31
 intro h
 have hE:=Option.some.inj h
 subst hE
 exact AA (v:=.agg [.sc (.int .i64 n.kind),.sc (.string n.name),.sc (.string b),.sc (.int .i64 n.n),.sc (.int .i64 n.fr),.sc (.int .i64 n.to),.sc (.int .i64 n.known),.sc (.int .i64 n.tab.den),.sl .lost n.tab.ps.length (rows FF n.tab.ps),.sl (.row 0 11) w2_9_31.length (A7 w2_9_31),.sc (.int .i64 n.att)]) _ _ (BU 300 []) (by kernel_rfl) .body (.wn (.g (.r (.r (.r (.r (.r (.r (.r (.r (.r (.s rfl (.r .nil))))))))))) .nil) (Am.F1 (⟨n.kind,n.name,b,n.n,n.fr,n.to,n.known,n.tab,w2_9_31,n.att⟩:Nd)))
 refine Ae (fun hb14=>?_) fun hb14=>?_
 refine DJ (fun Q v=>DI P Tryz.f21 0 Q (.agg (A9 v))) (fun i4 (w2_9:(List Nd)) (j4:List Value)=>fr 66 [(1,.sc (.string from_)),(2,.sc (.string to)),(3,.sc (.string a)),(4,.sc (.string b)),(5,.ptr 0 0),(10,.ptr 1 0),(11,.ptr 2 0),(12,.sc (.int .i64 ((i4:Nat):Int)))] [17,18,21,22,23,27,28,33,35,38,40,47] j4) (fun (w2_9:(List Nd))=>⟨[(2,.cells [.sc (.int .i64 n.kind),.sc (.string n.name),.sc (.string a),.sc (.int .i64 n.n),.sc (.int .i64 n.fr),.sc (.int .i64 n.to),.sc (.int .i64 n.known),.sc (.int .i64 n.tab.den),.sl .lost n.tab.ps.length (rows FF n.tab.ps),.sl (.row 0 11) w2_9.length (A7 w2_9),.sc (.int .i64 n.att)]),(1,.cells [.sc (.int .i64 0),.sc (.string ByteArray.empty),.sc (.string ByteArray.empty),.sc (.int .i64 0),.sc (.int .i64 0),.sc (.int .i64 0),.sc (.int .i64 0),.sc (.int .i64 0),.sl .full 0 [],.sl .full 0 [],.sc (.int .i64 0)]),(0,.cells (A9 n))],3,[(0,w2_9.length)],1⟩) (fun (w2_9:(List Nd)) (jx:List Value)=>fr 66 [(10,.ptr 1 0),(11,.ptr 2 0)] [17,18,21,22,23,27,28,33,35,38,40,47] jx) (fun (w2_9:(List Nd))=>⟨[(2,.cells [.sc (.int .i64 n.kind),.sc (.string n.name),.sc (.string a),.sc (.int .i64 n.n),.sc (.int .i64 n.fr),.sc (.int .i64 n.to),.sc (.int .i64 n.known),.sc (.int .i64 n.tab.den),.sl .lost n.tab.ps.length (rows FF n.tab.ps),.sl (.row 0 11) w2_9.length (A7 w2_9),.sc (.int .i64 n.att)]),(1,.cells [.sc (.int .i64 0),.sc (.string ByteArray.empty),.sc (.string ByteArray.empty),.sc (.int .i64 0),.sc (.int .i64 0),.sc (.int .i64 0),.sc (.int .i64 0),.sc (.int .i64 0),.sl .full 0 [],.sl .full 0 [],.sc (.int .i64 0)]),(0,.cells (A9 n))],3,[(0,w2_9.length)],1⟩) [.bool false,.bool false,.bool false,.bool false,.bool false,undef,.bool false,.bool false,.bool false,.bool true,.bool true] (DG [.b 2 9 11] 1 (sb LJ 1012) [.code (sb LJ 127)] (Aa 300 [pb hb1,pb hb7,pb hb13,pb hb14]) (by kernel_rfl)) ?_ ?_ ?_ (fun v h=>by cases h;exact .outer .body)
 rintro i4 w2_9 j4 hge hq
 exact BV (Aa 300 [pb (II hge)]) (by kernel_rfl) (hq (js 12 j4 [(11,.bool false)]))
 rintro i4 e4 w2_9 j4 r he4 hi4 mi4 k
 show B2 Al from_ to a b i4 e4 w2_9=some r→_
 unfold B2
 refine Aj fun y18 hy18=>?_
 refine Hy fun hl19=>?_
 rintro ⟨⟩
 exact C9 (Aa 300 [pb (F5 hi4),TH,CL (Bu .lost he4),Ak (Bb hy18),K3 (Ir (.row 0 11) w2_9 [y18] (o:=.full) (n:=1) (ns:=(A9 y18)) (Am.wn [y18] (.r (.r (.r (.r (.r (.r (.r (.r (.r (.r (.r .nil)))))))))))) rfl rfl (by simp) (by simpa using hl19)),pi mi4]) (by kernel_rfl) (k (js 12 j4 [(11,.bool true)]))
 rintro w2_9_32 jx_32
 intro h
 have hE:=Option.some.inj h
 subst hE
 exact AA (v:=.agg [.sc (.int .i64 n.kind),.sc (.string n.name),.sc (.string a),.sc (.int .i64 n.n),.sc (.int .i64 n.fr),.sc (.int .i64 n.to),.sc (.int .i64 n.known),.sc (.int .i64 n.tab.den),.sl .lost n.tab.ps.length (rows FF n.tab.ps),.sl (.row 0 11) w2_9_32.length (A7 w2_9_32),.sc (.int .i64 n.att)]) _ _ (BU 300 []) (by kernel_rfl) .body (.wn (.g (.r (.r (.r (.r (.r (.r (.r (.r (.r (.s rfl (.r .nil))))))))))) .nil) (Am.F1 (⟨n.kind,n.name,a,n.n,n.fr,n.to,n.known,n.tab,w2_9_32,n.att⟩:Nd)))
 refine DJ (fun Q v=>DI P Tryz.f21 0 Q (.agg (A9 v))) (fun i5 (w2_9:(List Nd)) (j5:List Value)=>fr 66 [(1,.sc (.string from_)),(2,.sc (.string to)),(3,.sc (.string a)),(4,.sc (.string b)),(5,.ptr 0 0),(10,.ptr 1 0),(11,.ptr 2 0),(12,.sc (.int .i64 ((i5:Nat):Int)))] [17,18,21,22,23,27,28,33,35,38,40,47] j5) (fun (w2_9:(List Nd))=>⟨[(2,.cells [.sc (.int .i64 n.kind),.sc (.string n.name),.sc (.string n.unit),.sc (.int .i64 n.n),.sc (.int .i64 n.fr),.sc (.int .i64 n.to),.sc (.int .i64 n.known),.sc (.int .i64 n.tab.den),.sl .lost n.tab.ps.length (rows FF n.tab.ps),.sl (.row 0 11) w2_9.length (A7 w2_9),.sc (.int .i64 n.att)]),(1,.cells [.sc (.int .i64 0),.sc (.string ByteArray.empty),.sc (.string ByteArray.empty),.sc (.int .i64 0),.sc (.int .i64 0),.sc (.int .i64 0),.sc (.int .i64 0),.sc (.int .i64 0),.sl .full 0 [],.sl .full 0 [],.sc (.int .i64 0)]),(0,.cells (A9 n))],3,[(0,w2_9.length)],1⟩) (fun (w2_9:(List Nd)) (jx:List Value)=>fr 66 [(10,.ptr 1 0),(11,.ptr 2 0)] [17,18,21,22,23,27,28,33,35,38,40,47] jx) (fun (w2_9:(List Nd))=>⟨[(2,.cells [.sc (.int .i64 n.kind),.sc (.string n.name),.sc (.string n.unit),.sc (.int .i64 n.n),.sc (.int .i64 n.fr),.sc (.int .i64 n.to),.sc (.int .i64 n.known),.sc (.int .i64 n.tab.den),.sl .lost n.tab.ps.length (rows FF n.tab.ps),.sl (.row 0 11) w2_9.length (A7 w2_9),.sc (.int .i64 n.att)]),(1,.cells [.sc (.int .i64 0),.sc (.string ByteArray.empty),.sc (.string ByteArray.empty),.sc (.int .i64 0),.sc (.int .i64 0),.sc (.int .i64 0),.sc (.int .i64 0),.sc (.int .i64 0),.sl .full 0 [],.sl .full 0 [],.sc (.int .i64 0)]),(0,.cells (A9 n))],3,[(0,w2_9.length)],1⟩) [.bool false,.bool false,.bool false,.bool false,.bool false,undef,.bool false,.bool false,.bool false,.bool false,.bool false] (DG [.b 2 9 11] 1 (sb LJ 1012) [.code (sb LJ 127)] (Aa 300 [pb hb1,pb hb7,pb hb13,pb hb14]) (by kernel_rfl)) ?_ ?_ ?_ (fun v h=>by cases h;exact .outer .body)
 rintro i5 w2_9 j5 hge hq
 exact BV (Aa 300 [pb (II hge)]) (by kernel_rfl) (hq (js 12 j5 [(11,.bool false)]))
 rintro i5 e5 w2_9 j5 r he5 hi5 mi5 k
 show B1 Al from_ to a b i5 e5 w2_9=some r→_
 unfold B1
 refine Aj fun y22 hy22=>?_
 refine Hy fun hl23=>?_
 rintro ⟨⟩
 exact C9 (Aa 300 [pb (F5 hi5),TH,CL (Bu .lost he5),Ak (Bb hy22),K3 (Ir (.row 0 11) w2_9 [y22] (o:=.full) (n:=1) (ns:=(A9 y22)) (Am.wn [y22] (.r (.r (.r (.r (.r (.r (.r (.r (.r (.r (.r .nil)))))))))))) rfl rfl (by simp) (by simpa using hl23)),pi mi5]) (by kernel_rfl) (k (js 12 j5 [(11,.bool true)]))
 rintro w2_9_33 jx_33
 intro h
 have hE:=Option.some.inj h
 subst hE
 exact AA (v:=.agg [.sc (.int .i64 n.kind),.sc (.string n.name),.sc (.string n.unit),.sc (.int .i64 n.n),.sc (.int .i64 n.fr),.sc (.int .i64 n.to),.sc (.int .i64 n.known),.sc (.int .i64 n.tab.den),.sl .lost n.tab.ps.length (rows FF n.tab.ps),.sl (.row 0 11) w2_9_33.length (A7 w2_9_33),.sc (.int .i64 n.att)]) _ _ (BU 300 []) (by kernel_rfl) .body (.wn (.g (.r (.r (.r (.r (.r (.r (.r (.r (.r (.s rfl (.r .nil))))))))))) .nil) (Am.F1 (⟨n.kind,n.name,n.unit,n.n,n.fr,n.to,n.known,n.tab,w2_9_33,n.att⟩:Nd)))
noncomputable def Bc:Nat→Nd→ByteArray→ByteArray→ByteArray→ByteArray→Option Nd
 | 0,_,_,_,_,_=>none
 | qn+1,n,from_,to,a,b=>Ga (Bc qn) n from_ to a b
theorem MT:∀ qn:Nat,∀ {n:Nd} {from_:ByteArray} {to:ByteArray} {a:ByteArray} {b:ByteArray} {yR:Nd},Bc qn n from_ to a b=some yR→Pure P G 21 [.agg (A9 n),.sc (.string from_),.sc (.string to),.sc (.string a),.sc (.string b)] (.agg (A9 yR)):=by
 intro qn
 induction qn with
 | zero=>exact (fun h=>by simp only [Bc] at h;cases h)
 | succ qn ih=>exact (fun h=>L5 (Bc qn) ih (by rw [Bc] at h;exact h))
noncomputable def D9 (n:Nd) (from_:ByteArray) (to:ByteArray) (a:ByteArray) (b:ByteArray):Option Nd:=V8 (fun qn=>Bc qn n from_ to a b)
theorem J2 {n:Nd} {from_:ByteArray} {to:ByteArray} {a:ByteArray} {b:ByteArray} {yR:Nd} (h:D9 n from_ to a b=some yR):Pure P G 21 [.agg (A9 n),.sc (.string from_),.sc (.string to),.sc (.string a),.sc (.string b)] (.agg (A9 yR)):=by
 obtain ⟨qn,h⟩:=Tu h
 exact (MT qn) h
end Mo
end Go.Proofs.YtkfplcngmiljaaaGreatDoor

