/- Part of a proof: see the last text. -/
import Derived.Test.YtkfplcngmiljaaaGreatDoorUmk
set_option linter.unusedVariables false
set_option linter.unusedSimpArgs false
namespace Go.Proofs.YtkfplcngmiljaaaGreatDoor
open AI Go
namespace Mo
set_option maxRecDepth 100000
set_option maxHeartbeats 4000000
noncomputable def B98:Code:=A3 Tryz.f98
theorem b98:Tryz.f98.body=some B98:=by kernel_rfl
noncomputable def DH  (n:Nd):Option Bool:=cond (Bq n.kind 5) ((Ez n).bind fun y1=>cond y1 ((AZ n.n 0 1000000).bind fun y2=>cond y2 ((AZ n.fr 0 36524).bind fun y3=>cond y3 ((AZ n.to (BH n.fr 1) 36525).bind fun y4=>cond y4 ((AZ n.known 0 36524).bind fun y5=>some y5) (some false)) (some false)) (some false)) (some false)) (some false)
theorem C1   {n:Nd} {yR:Bool} (h:DH  n=some yR):Pure P G 98 [.agg (Bl n)] (.sc (.bool yR)):=by
 unfold DH at h
 refine BB Hd.mixed Hd.Aa (AB Tryz.func98 b98 ?_) (A2 (Al.GB n) rfl) rfl
 revert h
 refine Ae (fun hb1=>?_) fun hb1=>?_
 refine Ah fun y1 hy1=>?_
 let o1:List (PC P G):=[pb hb1,Ak (LD hy1)]
 refine Ae (fun hv=>?_) fun hv=>?_
 subst hv
 refine Ah fun y2 hy2=>?_
 let o2:List (PC P G):=o1++[Ak (Au hy2)]
 refine Ae (fun hv=>?_) fun hv=>?_
 subst hv
 refine Ah fun y3 hy3=>?_
 refine Ae (fun hv=>?_) fun hv=>?_
 subst hv
 refine Ah fun y4 hy4=>?_
 refine Ae (fun hv=>?_) fun hv=>?_
 subst hv
 refine Ah fun y5 hy5=>?_
 intro h
 have hE:=Option.some.inj h
 subst hE
 exact rS (Ab 300 (o2++[Ak (Au hy3),pk,Ak (Au hy4),Ak (Au hy5)])) (by kernel_rfl)
 subst hv
 rintro ⟨⟩
 exact rS (Ab 300 (o2++[Ak (Au hy3),pk,Ak (Au hy4)])) (by kernel_rfl)
 subst hv
 rintro ⟨⟩
 exact rS (Ab 300 (o2++[Ak (Au hy3)])) (by kernel_rfl)
 subst hv
 rintro ⟨⟩
 exact rS (Ab 300 o2) (by kernel_rfl)
 subst hv
 rintro ⟨⟩
 exact rS (Ab 300 o1) (by kernel_rfl)
 rintro ⟨⟩
 exact rS (Ab 300 [pb hb1]) (by kernel_rfl)
noncomputable def kQ:Code:=A3 Tryz.f121
theorem v8:Tryz.f121.body=some kQ:=by kernel_rfl
noncomputable def FN   (i0:Nat) (e0:Nd) :Option (Lp Unit Unit Bool):=(EA e0).bind fun y1=>cond y1 (some (.nx ())) (some (.rt false))
noncomputable def EZ  (l:(List Nd)):Option Bool:=(It l.length (AL (fun i y x=>FN   i y ) (fun x=>()) (l.drop 0) 0 ())).bind (Ii (fun (_:Unit)=>cond (F4 0 ((l.length:Nat):Int)) (some true) (some false)) (fun v=>some v))
theorem Mc   {l:(List Nd)} {yR:Bool} (h:EZ  l=some yR):Pure P G 121 [.sl .lost l.length (Ba l)] (.sc (.bool yR)):=by
 unfold EZ at h
 refine BB Hd.mixed Hd.Aa (AB Tryz.func121 v8 ?_) (A2 (Al.B9 l) rfl) rfl
 revert h
 refine Fb (fun Q v=>Fq P Tryz.f121 0 Q (.sc (.bool v))) (fun i0 (_:Unit) (j0:List Value)=>fr 19 [(0,.sl .lost l.length (Ba l)),(3,.sc (.int .i64 ((i0:Nat):Int)))] [2,7,14,15,18] j0) (fun (_:Unit)=>⟨[],0,[],0⟩) (fun (_:Unit) (jx:List Value)=>fr 19 [(0,.sl .lost l.length (Ba l))] [2,7,14,15,18] jx) (fun (_:Unit)=>⟨[],0,[],0⟩) [.bool false] (EO [] 0 (sb kQ 52) [.code (sb kQ 7)] (Ab 300 []) (by kernel_rfl)) ?_ ?_ ?_ (fun v h=>by cases h;exact .outer .body)
 rintro i0 ⟨⟩ j0 hge hq
 exact CT (Ab 300 [pb (Kz hge)]) (by kernel_rfl) (hq (js 5 j0 [(1,.bool false)]))
 rintro i0 e0 ⟨⟩ j0 r he0 hi0 mi0 k
 show FN   i0 e0 =some r→_
 unfold FN
 refine Ah fun y1 hy1=>?_
 refine Ae (fun hv=>?_) fun hv=>?_
 subst hv
 rintro ⟨⟩
 exact D6 (Ab 300 [pb (GD hi0),Ct (BD .lost he0),Ak (GM hy1),pi mi0]) (by kernel_rfl) (k [(jv j0 0),.bool true,.bool true,.bool false,(jv j0 4)])
 subst hv
 rintro ⟨⟩
 exact AG _ _ (Ab 300 [pb (GD hi0),Ct (BD .lost he0),Ak (GM hy1)]) (by kernel_rfl) (.GS k) .sc
 rintro ⟨⟩ jx_2
 refine Ae (fun hb1=>?_) fun hb1=>?_
 intro h
 have hE:=Option.some.inj h
 subst hE
 exact AG _ _ (Cc 300 [pb hb1]) (by kernel_rfl) .body .sc
 intro h
 have hE:=Option.some.inj h
 subst hE
 exact AG _ _ (Cc 300 [pb hb1]) (by kernel_rfl) .body .sc
noncomputable def wA:Code:=A3 Tryz.f99
theorem b99:Tryz.f99.body=some wA:=by kernel_rfl
noncomputable def Cl   (i0:Nat) (e0:Nd) (unless3:Int) (amount4:Int):Option (Lp (Int×Int) (Int×Int) Bool):=(Dd e0).bind fun y1=>cond y1 (cond (Bq e0.kind 6) (cond (Bq ((e0.kids.length:Nat):Int) 1) ((e0.kids[0]?).bind fun x2=>(FU x2).bind fun y3=>cond y3 (some (.nx (unless3,amount4))) (some (.rt false))) (some (.rt false))) (cond (Bq e0.kind 8) (cond (Bq ((e0.kids.length:Nat):Int) 1) ((e0.kids[0]?).bind fun x4=>(FU x4).bind fun y5=>cond y5 (some (.nx (unless3,(BH amount4 1)))) (some (.rt false))) (some (.rt false))) (cond (Bq e0.kind 7) ((EZ e0.kids).bind fun y6=>cond y6 (some (.nx ((BH unless3 1),amount4))) (some (.rt false))) (some (.rt false))))) (some (.rt false))
noncomputable def CG  (l:(List Nd)):Option Bool:=(It l.length (AL (fun i y x=>Cl   i y x.1 x.2) (fun x=>(x.1,x.2)) (l.drop 0) 0 (0,0))).bind (Ii (fun ((unless3_7,amount4_7):(Int×Int))=>cond (KL unless3_7 1) (cond (Bq amount4_7 1) (some true) (some false)) (some false)) (fun v=>some v))
theorem EP   {l:(List Nd)} {yR:Bool} (h:CG  l=some yR):Pure P G 99 [.sl .lost l.length (Ba l)] (.sc (.bool yR)):=by
 unfold CG at h
 refine BB Hd.mixed Hd.Aa (AB Tryz.func99 b99 ?_) (A2 (Al.B9 l) rfl) rfl
 revert h
 refine Fb (fun Q v=>Fq P Tryz.f99 0 Q (.sc (.bool v))) (fun i0 ((unless3,amount4):(Int×Int)) (j0:List Value)=>fr 69 [(0,.sl .lost l.length (Ba l)),(3,.sc (.int .i64 unless3)),(4,.sc (.int .i64 amount4)),(5,.sc (.int .i64 ((i0:Nat):Int)))] [2,9,16,17,23,24,25,32,33,41,42,43,49,52,53,61,62,64,65,67,68] j0) (fun ((unless3,amount4):(Int×Int))=>⟨[],0,[],0⟩) (fun ((unless3,amount4):(Int×Int)) (jx:List Value)=>fr 69 [(3,.sc (.int .i64 unless3)),(4,.sc (.int .i64 amount4))] [2,9,16,17,23,24,25,32,33,41,42,43,49,52,53,61,62,64,65,67,68] jx) (fun ((unless3,amount4):(Int×Int))=>⟨[],0,[],0⟩) [.bool false] (EO [] 0 (sb wA 244) [.code (sb wA 31)] (Ab 300 []) (by kernel_rfl)) ?_ ?_ ?_ (fun v h=>by cases h;exact .outer .body)
 rintro i0 ⟨unless3,amount4⟩ j0 hge hq
 exact CT (Ab 300 [pb (Kz hge)]) (by kernel_rfl) (hq (js 21 j0 [(1,.bool false)]))
 rintro i0 e0 ⟨unless3,amount4⟩ j0 r he0 hi0 mi0 k
 show Cl   i0 e0 unless3 amount4=some r→_
 unfold Cl
 refine Ah fun y1 hy1=>?_
 let o1:List (PC P G):=[pb (GD hi0),Ct (BD .lost he0),Ak (F8 hy1)]
 refine Ae (fun hv=>?_) fun hv=>?_
 subst hv
 let o2:List (PC P G):=o1++[Ct (BD .lost he0)]
 refine Ae (fun hb1=>?_) fun hb1=>?_
 refine Ae (fun hb2=>?_) fun hb2=>?_
 refine Ah fun x2 hx2=>?_
 refine Ah fun y3 hy3=>?_
 let o3:List (PC P G):=o2++[pb hb1,Ct (BD .lost he0),pn hb2,Ct (BD .lost he0),Ct (BD .lost hx2),Ak (JF hy3)]
 refine Ae (fun hv=>?_) fun hv=>?_
 subst hv
 rintro ⟨⟩
 exact D6 (Ab 300 (o3++[Ct (BD .lost he0),pb (B:=Bq e0.kind 8) (b:=false) (by rw [GV hb1];rfl),pi mi0])) (by kernel_rfl) (k (js 21 j0 [(1,.bool true),(2,.bool true),(3,.bool false),(4,.bool true),(5,.bool true),(7,.bool false),(8,.bool false),(9,.bool true),(10,.bool false),(11,.bool false),(12,.bool false)]))
 subst hv
 rintro ⟨⟩
 exact AG _ _ (Ab 300 o3) (by kernel_rfl) (.GS k) .sc
 rintro ⟨⟩
 exact AG _ _ (Ab 300 (o2++[pb hb1,Ct (BD .lost he0),pn hb2])) (by kernel_rfl) (.GS k) .sc
 refine Ae (fun hb3=>?_) fun hb3=>?_
 refine Ae (fun hb4=>?_) fun hb4=>?_
 refine Ah fun x4 hx4=>?_
 refine Ah fun y5 hy5=>?_
 let o4:List (PC P G):=o2++[pb hb1,pb hb3,Ct (BD .lost he0),pn hb4,Ct (BD .lost he0),Ct (BD .lost hx4),Ak (JF hy5)]
 refine Ae (fun hv=>?_) fun hv=>?_
 subst hv
 rintro ⟨⟩
 exact D6 (Ab 300 (o4++[Ct (BD .lost he0),pb hb3,pk,pi mi0])) (by kernel_rfl) (k (js 21 j0 [(1,.bool true),(2,.bool true),(3,.bool false),(4,.bool true),(5,.bool false),(6,.bool true),(7,.bool false),(8,.bool false),(9,.bool true),(10,.bool false),(11,.bool false),(12,.bool true)]))
 subst hv
 rintro ⟨⟩
 exact AG _ _ (Ab 300 o4) (by kernel_rfl) (.GS k) .sc
 rintro ⟨⟩
 exact AG _ _ (Ab 300 (o2++[pb hb1,pb hb3,Ct (BD .lost he0),pn hb4])) (by kernel_rfl) (.GS k) .sc
 refine Ae (fun hb5=>?_) fun hb5=>?_
 refine Ah fun y6 hy6=>?_
 let o5:List (PC P G):=o2++[pb hb1,pb hb3,pb hb5,pk,Ct (BD .lost he0),Ak (Mc hy6)]
 refine Ae (fun hv=>?_) fun hv=>?_
 subst hv
 rintro ⟨⟩
 exact D6 (Ab 300 (o5++[pi mi0])) (by kernel_rfl) (k (js 21 j0 [(1,.bool true),(2,.bool true),(3,.bool false),(4,.bool false),(5,.bool false),(6,.bool false),(13,.bool true),(14,.bool true),(15,.bool true),(16,.bool false)]))
 subst hv
 rintro ⟨⟩
 exact AG _ _ (Ab 300 o5) (by kernel_rfl) (.GS k) .sc
 rintro ⟨⟩
 exact AG _ _ (Ab 300 (o2++[pb hb1,pb hb3,pb hb5])) (by kernel_rfl) (.GS k) .sc
 subst hv
 rintro ⟨⟩
 exact AG _ _ (Ab 300 o1) (by kernel_rfl) (.GS k) .sc
 rintro ⟨unless3_7,amount4_7⟩ jx_7
 dsimp only
 refine Ae (fun hb6=>?_) fun hb6=>?_
 refine Ae (fun hb7=>?_) fun hb7=>?_
 intro h
 have hE:=Option.some.inj h
 subst hE
 exact AG _ _ (Cc 300 [pb hb6,pb hb7]) (by kernel_rfl) .body .sc
 intro h
 have hE:=Option.some.inj h
 subst hE
 exact AG _ _ (Cc 300 [pb hb6,pb hb7]) (by kernel_rfl) .body .sc
 intro h
 have hE:=Option.some.inj h
 subst hE
 exact AG _ _ (Cc 300 [pb hb6]) (by kernel_rfl) .body .sc
noncomputable def B65:Code:=A3 Tryz.f65
theorem b65:Tryz.f65.body=some B65:=by kernel_rfl
noncomputable def GL  (n:Nd):Option Bool:=(FW n.name).bind fun y1=>cond y1 ((Fv n.unit).bind fun y2=>cond y2 (cond (Bq n.kind 2) ((C2 n).bind fun y3=>cond y3 (some true) (some false)) (cond (Bq n.kind 3) ((C3 n).bind fun y4=>cond y4 ((AZ n.n 1 4).bind fun y5=>some y5) (some false)) (cond (Bq n.kind 4) ((CM n).bind fun y6=>cond y6 ((AZ n.n 1 1000000).bind fun y7=>cond y7 ((some (F4 1 ((n.kids.length:Nat):Int))).bind fun q8=>cond q8 ((n.kids[0]?).bind fun x9=>(DH x9).bind fun y10=>cond y10 ((Ku n.kids 1 ((n.kids.length:Nat):Int)).bind fun l11=>(CG l11).bind fun y12=>some y12) (some false)) (some false)) (some false)) (some false)) (some false)))) ((some (BA n.unit.data.toList AO.data.toList)).bind fun q13=>cond q13 (cond (Bq n.kind 2) ((C2 n).bind fun y14=>cond y14 (some true) (some false)) (cond (Bq n.kind 3) ((C3 n).bind fun y15=>cond y15 ((AZ n.n 1 4).bind fun y16=>some y16) (some false)) (cond (Bq n.kind 4) ((CM n).bind fun y17=>cond y17 ((AZ n.n 1 1000000).bind fun y18=>cond y18 ((some (F4 1 ((n.kids.length:Nat):Int))).bind fun q19=>cond q19 ((n.kids[0]?).bind fun x20=>(DH x20).bind fun y21=>cond y21 ((Ku n.kids 1 ((n.kids.length:Nat):Int)).bind fun l22=>(CG l22).bind fun y23=>some y23) (some false)) (some false)) (some false)) (some false)) (some false)))) ((some (BA n.unit.data.toList Bj.data.toList)).bind fun q24=>cond q24 (cond (Bq n.kind 2) ((C2 n).bind fun y25=>cond y25 (some true) (some false)) (cond (Bq n.kind 3) ((C3 n).bind fun y26=>cond y26 ((AZ n.n 1 4).bind fun y27=>some y27) (some false)) (cond (Bq n.kind 4) ((CM n).bind fun y28=>cond y28 ((AZ n.n 1 1000000).bind fun y29=>cond y29 ((some (F4 1 ((n.kids.length:Nat):Int))).bind fun q30=>cond q30 ((n.kids[0]?).bind fun x31=>(DH x31).bind fun y32=>cond y32 ((Ku n.kids 1 ((n.kids.length:Nat):Int)).bind fun l33=>(CG l33).bind fun y34=>some y34) (some false)) (some false)) (some false)) (some false)) (some false)))) ((some (BA n.unit.data.toList B2.data.toList)).bind fun q35=>cond (Bq n.kind 2) ((C2 n).bind fun y36=>cond y36 (some q35) (some false)) (cond (Bq n.kind 3) ((C3 n).bind fun y37=>cond y37 (cond q35 ((AZ n.n 1 4).bind fun y38=>some y38) (some false)) (some false)) (cond (Bq n.kind 4) ((CM n).bind fun y39=>cond y39 ((AZ n.n 1 1000000).bind fun y40=>cond y40 ((some (F4 1 ((n.kids.length:Nat):Int))).bind fun q41=>cond q41 ((n.kids[0]?).bind fun x42=>(DH x42).bind fun y43=>cond y43 ((Ku n.kids 1 ((n.kids.length:Nat):Int)).bind fun l44=>(CG l44).bind fun y45=>some y45) (some false)) (some false)) (some false)) (some false)) (some false))))))) (some false)
theorem KC   {n:Nd} {yR:Bool} (h:GL  n=some yR):Pure P G 65 [.agg (Bl n)] (.sc (.bool yR)):=by
 unfold GL at h
 refine BB Hd.mixed Hd.Aa (AB Tryz.func65 b65 ?_) (A2 (Al.GB n) rfl) rfl
 revert h
 refine Ah fun y1 hy1=>?_
 let o1:List (PC P G):=[Ak (Kx hy1)]
 refine Ae (fun hv=>?_) fun hv=>?_
 subst hv
 refine Ah fun y2 hy2=>?_
 let o2:List (PC P G):=o1++[Ak (G9 hy2)]
 refine Ae (fun hv=>?_) fun hv=>?_
 subst hv
 refine Ae (fun hb1=>?_) fun hb1=>?_
 refine Ah fun y3 hy3=>?_
 refine Ae (fun hv=>?_) fun hv=>?_
 subst hv
 rintro ⟨⟩
 exact rS (Ab 300 (o2++[pb hb1,Ak (Cg hy3)])) (by kernel_rfl)
 subst hv
 rintro ⟨⟩
 exact rS (Ab 300 (o2++[pb hb1,Ak (Cg hy3)])) (by kernel_rfl)
 refine Ae (fun hb2=>?_) fun hb2=>?_
 refine Ah fun y4 hy4=>?_
 refine Ae (fun hv=>?_) fun hv=>?_
 subst hv
 refine Ah fun y5 hy5=>?_
 intro h
 have hE:=Option.some.inj h
 subst hE
 exact rS (Ab 300 (o2++[pb hb1,pb hb2,Ak (CJ hy4),Ak (Au hy5)])) (by kernel_rfl)
 subst hv
 rintro ⟨⟩
 exact rS (Ab 300 (o2++[pb hb1,pb hb2,Ak (CJ hy4)])) (by kernel_rfl)
 let o3:List (PC P G):=o2++[pb hb1,pb hb2]
 refine Ae (fun hb3=>?_) fun hb3=>?_
 refine Ah fun y6 hy6=>?_
 let o4:List (PC P G):=o3++[pb hb3,Ak (En hy6)]
 refine Ae (fun hv=>?_) fun hv=>?_
 subst hv
 refine Ah fun y7 hy7=>?_
 let o5:List (PC P G):=o4++[Ak (Au hy7)]
 refine Ae (fun hv=>?_) fun hv=>?_
 subst hv
 refine Ah fun q8 hq8=>?_
 let o6:List (PC P G):=o5++[HY (Vm hq8 (.tmp 59) (.const (.int .i64 1)))]
 refine Ae (fun hv=>?_) fun hv=>?_
 subst hv
 refine Ah fun x9 hx9=>?_
 refine Ah fun y10 hy10=>?_
 refine Ae (fun hv=>?_) fun hv=>?_
 subst hv
 refine Ah fun l11 hl11=>?_
 refine Ah fun y12 hy12=>?_
 intro h
 have hE:=Option.some.inj h
 subst hE
 exact rS (Ab 300 (o6++[Ct (BD .lost hx9),Ak (C1 hy10),PN (GI hl11),Ak (EP hy12)])) (by kernel_rfl)
 subst hv
 rintro ⟨⟩
 exact rS (Ab 300 (o6++[Ct (BD .lost hx9),Ak (C1 hy10)])) (by kernel_rfl)
 subst hv
 rintro ⟨⟩
 exact rS (Ab 300 o6) (by kernel_rfl)
 subst hv
 rintro ⟨⟩
 exact rS (Ab 300 o5) (by kernel_rfl)
 subst hv
 rintro ⟨⟩
 exact rS (Ab 300 o4) (by kernel_rfl)
 rintro ⟨⟩
 exact rS (Ab 300 (o3++[pb hb3])) (by kernel_rfl)
 subst hv
 refine Ah fun q13 hq13=>?_
 let o7:List (PC P G):=o2++[HY (La hq13 (.tmp 13) (.const (.string AO)))]
 refine Ae (fun hv=>?_) fun hv=>?_
 subst hv
 refine Ae (fun hb4=>?_) fun hb4=>?_
 refine Ah fun y14 hy14=>?_
 refine Ae (fun hv=>?_) fun hv=>?_
 subst hv
 rintro ⟨⟩
 exact rS (Ab 300 (o7++[pb hb4,Ak (Cg hy14)])) (by kernel_rfl)
 subst hv
 rintro ⟨⟩
 exact rS (Ab 300 (o7++[pb hb4,Ak (Cg hy14)])) (by kernel_rfl)
 refine Ae (fun hb5=>?_) fun hb5=>?_
 refine Ah fun y15 hy15=>?_
 refine Ae (fun hv=>?_) fun hv=>?_
 subst hv
 refine Ah fun y16 hy16=>?_
 intro h
 have hE:=Option.some.inj h
 subst hE
 exact rS (Ab 300 (o7++[pb hb4,pb hb5,Ak (CJ hy15),Ak (Au hy16)])) (by kernel_rfl)
 subst hv
 rintro ⟨⟩
 exact rS (Ab 300 (o7++[pb hb4,pb hb5,Ak (CJ hy15)])) (by kernel_rfl)
 let o8:List (PC P G):=o7++[pb hb4,pb hb5]
 refine Ae (fun hb6=>?_) fun hb6=>?_
 refine Ah fun y17 hy17=>?_
 let o9:List (PC P G):=o8++[pb hb6,Ak (En hy17)]
 refine Ae (fun hv=>?_) fun hv=>?_
 subst hv
 refine Ah fun y18 hy18=>?_
 let o10:List (PC P G):=o9++[Ak (Au hy18)]
 refine Ae (fun hv=>?_) fun hv=>?_
 subst hv
 refine Ah fun q19 hq19=>?_
 let o11:List (PC P G):=o10++[HY (Vm hq19 (.tmp 59) (.const (.int .i64 1)))]
 refine Ae (fun hv=>?_) fun hv=>?_
 subst hv
 refine Ah fun x20 hx20=>?_
 refine Ah fun y21 hy21=>?_
 refine Ae (fun hv=>?_) fun hv=>?_
 subst hv
 refine Ah fun l22 hl22=>?_
 refine Ah fun y23 hy23=>?_
 intro h
 have hE:=Option.some.inj h
 subst hE
 exact rS (Ab 300 (o11++[Ct (BD .lost hx20),Ak (C1 hy21),PN (GI hl22),Ak (EP hy23)])) (by kernel_rfl)
 subst hv
 rintro ⟨⟩
 exact rS (Ab 300 (o11++[Ct (BD .lost hx20),Ak (C1 hy21)])) (by kernel_rfl)
 subst hv
 rintro ⟨⟩
 exact rS (Ab 300 o11) (by kernel_rfl)
 subst hv
 rintro ⟨⟩
 exact rS (Ab 300 o10) (by kernel_rfl)
 subst hv
 rintro ⟨⟩
 exact rS (Ab 300 o9) (by kernel_rfl)
 rintro ⟨⟩
 exact rS (Ab 300 (o8++[pb hb6])) (by kernel_rfl)
 subst hv
 refine Ah fun q24 hq24=>?_
 let o12:List (PC P G):=o7++[HY (La hq24 (.tmp 18) (.const (.string Bj)))]
 refine Ae (fun hv=>?_) fun hv=>?_
 subst hv
 refine Ae (fun hb7=>?_) fun hb7=>?_
 refine Ah fun y25 hy25=>?_
 refine Ae (fun hv=>?_) fun hv=>?_
 subst hv
 rintro ⟨⟩
 exact rS (Ab 300 (o12++[pb hb7,Ak (Cg hy25)])) (by kernel_rfl)
 subst hv
 rintro ⟨⟩
 exact rS (Ab 300 (o12++[pb hb7,Ak (Cg hy25)])) (by kernel_rfl)
 refine Ae (fun hb8=>?_) fun hb8=>?_
 refine Ah fun y26 hy26=>?_
 refine Ae (fun hv=>?_) fun hv=>?_
 subst hv
 refine Ah fun y27 hy27=>?_
 intro h
 have hE:=Option.some.inj h
 subst hE
 exact rS (Ab 300 (o12++[pb hb7,pb hb8,Ak (CJ hy26),Ak (Au hy27)])) (by kernel_rfl)
 subst hv
 rintro ⟨⟩
 exact rS (Ab 300 (o12++[pb hb7,pb hb8,Ak (CJ hy26)])) (by kernel_rfl)
 let o13:List (PC P G):=o12++[pb hb7,pb hb8]
 refine Ae (fun hb9=>?_) fun hb9=>?_
 refine Ah fun y28 hy28=>?_
 let o14:List (PC P G):=o13++[pb hb9,Ak (En hy28)]
 refine Ae (fun hv=>?_) fun hv=>?_
 subst hv
 refine Ah fun y29 hy29=>?_
 let o15:List (PC P G):=o14++[Ak (Au hy29)]
 refine Ae (fun hv=>?_) fun hv=>?_
 subst hv
 refine Ah fun q30 hq30=>?_
 let o16:List (PC P G):=o15++[HY (Vm hq30 (.tmp 59) (.const (.int .i64 1)))]
 refine Ae (fun hv=>?_) fun hv=>?_
 subst hv
 refine Ah fun x31 hx31=>?_
 refine Ah fun y32 hy32=>?_
 refine Ae (fun hv=>?_) fun hv=>?_
 subst hv
 refine Ah fun l33 hl33=>?_
 refine Ah fun y34 hy34=>?_
 intro h
 have hE:=Option.some.inj h
 subst hE
 exact rS (Ab 300 (o16++[Ct (BD .lost hx31),Ak (C1 hy32),PN (GI hl33),Ak (EP hy34)])) (by kernel_rfl)
 subst hv
 rintro ⟨⟩
 exact rS (Ab 300 (o16++[Ct (BD .lost hx31),Ak (C1 hy32)])) (by kernel_rfl)
 subst hv
 rintro ⟨⟩
 exact rS (Ab 300 o16) (by kernel_rfl)
 subst hv
 rintro ⟨⟩
 exact rS (Ab 300 o15) (by kernel_rfl)
 subst hv
 rintro ⟨⟩
 exact rS (Ab 300 o14) (by kernel_rfl)
 rintro ⟨⟩
 exact rS (Ab 300 (o13++[pb hb9])) (by kernel_rfl)
 subst hv
 refine Ah fun q35 hq35=>?_
 let o17:List (PC P G):=o12++[HY (La hq35 (.tmp 23) (.const (.string B2)))]
 refine Ae (fun hb10=>?_) fun hb10=>?_
 refine Ah fun y36 hy36=>?_
 refine Ae (fun hv=>?_) fun hv=>?_
 subst hv
 intro h
 have hE:=Option.some.inj h
 subst hE
 exact rS (Ab 300 (o17++[pb hb10,Ak (Cg hy36)])) (by kernel_rfl)
 subst hv
 rintro ⟨⟩
 exact rS (Ab 300 (o17++[pb hb10,Ak (Cg hy36)])) (by kernel_rfl)
 refine Ae (fun hb11=>?_) fun hb11=>?_
 refine Ah fun y37 hy37=>?_
 let o18:List (PC P G):=o17++[pb hb10,pb hb11,Ak (CJ hy37)]
 refine Ae (fun hv=>?_) fun hv=>?_
 subst hv
 refine Ae (fun hv=>?_) fun hv=>?_
 subst hv
 refine Ah fun y38 hy38=>?_
 intro h
 have hE:=Option.some.inj h
 subst hE
 exact rS (Ab 300 (o18++[Ak (Au hy38)])) (by kernel_rfl)
 subst hv
 rintro ⟨⟩
 exact rS (Ab 300 o18) (by kernel_rfl)
 subst hv
 rintro ⟨⟩
 exact rS (Ab 300 o18) (by kernel_rfl)
 let o19:List (PC P G):=o17++[pb hb10,pb hb11]
 refine Ae (fun hb12=>?_) fun hb12=>?_
 refine Ah fun y39 hy39=>?_
 let o20:List (PC P G):=o19++[pb hb12,Ak (En hy39)]
 refine Ae (fun hv=>?_) fun hv=>?_
 subst hv
 refine Ah fun y40 hy40=>?_
 let o21:List (PC P G):=o20++[Ak (Au hy40)]
 refine Ae (fun hv=>?_) fun hv=>?_
 subst hv
 refine Ah fun q41 hq41=>?_
 let o22:List (PC P G):=o21++[HY (Vm hq41 (.tmp 59) (.const (.int .i64 1)))]
 refine Ae (fun hv=>?_) fun hv=>?_
 subst hv
 refine Ah fun x42 hx42=>?_
 refine Ah fun y43 hy43=>?_
 refine Ae (fun hv=>?_) fun hv=>?_
 subst hv
 refine Ah fun l44 hl44=>?_
 refine Ah fun y45 hy45=>?_
 intro h
 have hE:=Option.some.inj h
 subst hE
 exact rS (Ab 300 (o22++[Ct (BD .lost hx42),Ak (C1 hy43),PN (GI hl44),Ak (EP hy45)])) (by kernel_rfl)
 subst hv
 rintro ⟨⟩
 exact rS (Ab 300 (o22++[Ct (BD .lost hx42),Ak (C1 hy43)])) (by kernel_rfl)
 subst hv
 rintro ⟨⟩
 exact rS (Ab 300 o22) (by kernel_rfl)
 subst hv
 rintro ⟨⟩
 exact rS (Ab 300 o21) (by kernel_rfl)
 subst hv
 rintro ⟨⟩
 exact rS (Ab 300 o20) (by kernel_rfl)
 rintro ⟨⟩
 exact rS (Ab 300 (o19++[pb hb12])) (by kernel_rfl)
 subst hv
 rintro ⟨⟩
 exact rS (Ab 300 o1) (by kernel_rfl)
noncomputable def vJ:Code:=A3 Tryz.f39
theorem b39:Tryz.f39.body=some vJ:=by kernel_rfl
noncomputable def GH   (i0:Nat) (e0:Nd) :Option (Lp Unit Unit Bool):=(GL e0).bind fun y3=>cond y3 (some (.nx ())) (some (.rt false))
noncomputable def E3  (n:Nd):Option Bool:=(GW n).bind fun y1=>cond y1 (cond (Bq n.kind 1) ((It n.kids.length (AL (fun i y x=>GH   i y ) (fun x=>()) (n.kids.drop 0) 0 ())).bind (Ii (fun (_:Unit)=>(Dd n).bind fun y5=>some y5) (fun v=>some v))) ((FU n).bind fun y2=>some y2)) (some false)
theorem JZ   {n:Nd} {yR:Bool} (h:E3  n=some yR):Pure P G 39 [.agg (Bl n)] (.sc (.bool yR)):=by
 unfold E3 at h
 refine BB Hd.mixed Hd.Aa (AB Tryz.func39 b39 ?_) (A2 (Al.GB n) rfl) rfl
 revert h
 refine Ah fun y1 hy1=>?_
 refine Ae (fun hv=>?_) fun hv=>?_
 subst hv
 refine Ae (fun hb1=>?_) fun hb1=>?_
 refine Fb (fun Q v=>Fq P Tryz.f39 0 Q (.sc (.bool v))) (fun i0 (_:Unit) (j0:List Value)=>fr 28 [(1,.ptr 0 0),(3,.sc (.int .i64 ((i0:Nat):Int)))] [2,5,6,9,11,16,24,25,27] j0) (fun (_:Unit)=>⟨[(0,.cells (Bl n))],1,[],0⟩) (fun (_:Unit) (jx:List Value)=>fr 28 [(1,.ptr 0 0)] [2,5,6,9,11,16,24,25,27] jx) (fun (_:Unit)=>⟨[(0,.cells (Bl n))],1,[],0⟩) [.bool false,.bool true,.bool false,.bool false] (EO [] 0 (sb vJ 244) [.code (sb vJ 31)] (Ab 300 [Ak (Iw hy1),pn hb1]) (by kernel_rfl)) ?_ ?_ ?_ (fun v h=>by cases h;exact .outer .body)
 rintro i0 ⟨⟩ j0 hge hq
 exact CT (Ab 300 [pb (Kz hge)]) (by kernel_rfl) (hq (js 9 j0 [(5,.bool false)]))
 rintro i0 e0 ⟨⟩ j0 r he0 hi0 mi0 k
 show GH   i0 e0 =some r→_
 unfold GH
 refine Ah fun y3 hy3=>?_
 refine Ae (fun hv=>?_) fun hv=>?_
 subst hv
 rintro ⟨⟩
 exact D6 (Ab 300 [pb (GD hi0),Ct (BD .lost he0),Ak (KC hy3),pi mi0]) (by kernel_rfl) (k (js 9 j0 [(5,.bool true),(6,.bool true),(7,.bool false)]))
 subst hv
 rintro ⟨⟩
 exact AG _ _ (Ab 300 [pb (GD hi0),Ct (BD .lost he0),Ak (KC hy3)]) (by kernel_rfl) (.GS k) .sc
 rintro ⟨⟩ jx_4
 refine Ah fun y5 hy5=>?_
 intro h
 have hE:=Option.some.inj h
 subst hE
 exact AG _ _ (Cc 300 [Ak (F8 hy5)]) (by kernel_rfl) .body .sc
 refine Ah fun y2 hy2=>?_
 intro h
 have hE:=Option.some.inj h
 subst hE
 exact rS (Ab 300 [Ak (Iw hy1),pn hb1,Ak (JF hy2)]) (by kernel_rfl)
 subst hv
 rintro ⟨⟩
 exact rS (Ab 300 [Ak (Iw hy1)]) (by kernel_rfl)
noncomputable def B19:Code:=A3 Tryz.f19
theorem b19:Tryz.f19.body=some B19:=by kernel_rfl
noncomputable def Ey  (n:Nd):Option Bool:=cond (Bq n.kind 1) ((E3 n).bind fun y1=>some y1) (some false)
theorem D7   {n:Nd} {yR:Bool} (h:Ey  n=some yR):Pure P G 19 [.agg (Bl n)] (.sc (.bool yR)):=by
 unfold Ey at h
 refine BB Hd.mixed Hd.Aa (AB Tryz.func19 b19 ?_) (A2 (Al.GB n) rfl) rfl
 revert h
 refine Ae (fun hb1=>?_) fun hb1=>?_
 refine Ah fun y1 hy1=>?_
 intro h
 have hE:=Option.some.inj h
 subst hE
 exact rS (Ab 300 [pb hb1,Ak (JZ hy1)]) (by kernel_rfl)
 rintro ⟨⟩
 exact rS (Ab 300 [pb hb1]) (by kernel_rfl)
noncomputable def B20:Code:=A3 Tryz.f20
theorem b20:Tryz.f20.body=some B20:=by kernel_rfl
noncomputable def DS  (n:Nd):Option Bool:=cond (Bq n.kind 1) (some false) ((E3 n).bind fun y1=>some y1)
theorem Ha   {n:Nd} {yR:Bool} (h:DS  n=some yR):Pure P G 20 [.agg (Bl n)] (.sc (.bool yR)):=by
 unfold DS at h
 refine BB Hd.mixed Hd.Aa (AB Tryz.func20 b20 ?_) (A2 (Al.GB n) rfl) rfl
 revert h
 refine Ae (fun hb1=>?_) fun hb1=>?_
 rintro ⟨⟩
 exact rS (Ab 300 [pn hb1]) (by kernel_rfl)
 refine Ah fun y1 hy1=>?_
 intro h
 have hE:=Option.some.inj h
 subst hE
 exact rS (Ab 300 [pn hb1,Ak (JZ hy1)]) (by kernel_rfl)
noncomputable def B59:Code:=A3 Tryz.f59
theorem b59:Tryz.f59.body=some B59:=by kernel_rfl
noncomputable def Db  (unit:ByteArray):Option Bool:=cond (BA unit.data.toList AO.data.toList) (some false) (cond (BA unit.data.toList Bj.data.toList) (some false) (cond (BA unit.data.toList B2.data.toList) (some false) (some true)))
theorem DB   {unit:ByteArray} {yR:Bool} (h:Db  unit=some yR):Pure P G 59 [.sc (.string unit)] (.sc (.bool yR)):=by
 unfold Db at h
 refine BB Hd.mixed Hd.Aa (AB Tryz.func59 b59 ?_) (A2 rfl rfl) rfl
 revert h
 refine Ae (fun hb1=>?_) fun hb1=>?_
 rintro ⟨⟩
 exact rS (Ab 300 [pn hb1]) (by kernel_rfl)
 refine Ae (fun hb2=>?_) fun hb2=>?_
 rintro ⟨⟩
 exact rS (Ab 300 [pn hb1,pn hb2]) (by kernel_rfl)
 refine Ae (fun hb3=>?_) fun hb3=>?_
 rintro ⟨⟩
 exact rS (Ab 300 [pn hb1,pn hb2,pn hb3]) (by kernel_rfl)
 rintro ⟨⟩
 exact rS (Ab 300 [pn hb1,pn hb2,pn hb3]) (by kernel_rfl)
noncomputable def uW:Code:=A3 Tryz.f60
theorem b60:Tryz.f60.body=some uW:=by kernel_rfl
noncomputable def ED  (kind:Int) (name:ByteArray) (i0:Nat) (e0:Nd) :Option (Lp Unit Unit (Nd×Bool)):=cond (Bq e0.kind kind) (cond (BA e0.name.data.toList name.data.toList) (some (.rt (e0,true))) (some (.nx ()))) (some (.nx ()))
noncomputable def DL  (source:Nd) (kind:Int) (name:ByteArray):Option (Nd×Bool):=(It source.kids.length (AL (fun i y x=>ED  kind name i y ) (fun x=>()) (source.kids.drop 0) 0 ())).bind (Ii (fun (_:Unit)=>some ((⟨0,ByteArray.empty,ByteArray.empty,0,0,0,0,(⟨0,[]⟩:Fn),[],0⟩:Nd),false)) (fun v=>some v))
theorem FT   {source:Nd} {kind:Int} {name:ByteArray} {yR:(Nd×Bool)} (h:DL  source kind name=some yR):Pure P G 60 [.agg (Bl source),.sc (.int .i64 kind),.sc (.string name)] (.A9 [.agg (Bl yR.1),.sc (.bool yR.2)]):=by
 unfold DL at h
 refine BB Hd.mixed Hd.Aa (AB Tryz.func60 b60 ?_) (A2 (Al.GB source) (A2 rfl (A2 rfl rfl))) (A2 (Al.GB yR.1) (A2 rfl rfl))
 revert h
 refine Fb (fun Q v=>Fq P Tryz.f60 0 Q (.A9 [.agg (Bl v.1),.sc (.bool v.2)])) (fun i0 (_:Unit) (j0:List Value)=>fr 34 [(1,.sc (.int .i64 kind)),(2,.sc (.string name)),(3,.ptr 0 0),(6,.ptr 1 0),(8,.sc (.int .i64 ((i0:Nat):Int)))] [7,14,25,26,30,31] j0) (fun (_:Unit)=>⟨[(1,.cells [.sc (.int .i64 0),.sc (.string ByteArray.empty),.sc (.string ByteArray.empty),.sc (.int .i64 0),.sc (.int .i64 0),.sc (.int .i64 0),.sc (.int .i64 0),.sc (.int .i64 0),.sl .full 0 [],.sl .full 0 [],.sc (.int .i64 0)]),(0,.cells (Bl source))],2,[],0⟩) (fun (_:Unit) (jx:List Value)=>fr 34 [(6,.ptr 1 0)] [7,14,25,26,30,31] jx) (fun (_:Unit)=>⟨[(1,.cells [.sc (.int .i64 0),.sc (.string ByteArray.empty),.sc (.string ByteArray.empty),.sc (.int .i64 0),.sc (.int .i64 0),.sc (.int .i64 0),.sc (.int .i64 0),.sc (.int .i64 0),.sl .full 0 [],.sl .full 0 [],.sc (.int .i64 0)]),(0,.cells (Bl source))],2,[],0⟩) [.bool false] (EO [] 0 (sb uW 52) [.code (sb uW 7)] (Ab 300 []) (by kernel_rfl)) ?_ ?_ ?_ (fun v h=>by cases h;exact .outer .body)
 rintro i0 ⟨⟩ j0 hge hq
 exact CT (Ab 300 [pb (Kz hge)]) (by kernel_rfl) (hq (js 6 j0 [(1,.bool false)]))
 rintro i0 e0 ⟨⟩ j0 r he0 hi0 mi0 k
 show ED  kind name i0 e0 =some r→_
 unfold ED
 refine Ae (fun hb1=>?_) fun hb1=>?_
 refine Ae (fun hb2=>?_) fun hb2=>?_
 rintro ⟨⟩
 exact AG _ _ (Ab 300 [pb (GD hi0),Ct (BD .lost he0),pb hb1,pb hb2]) (by kernel_rfl) (.GS k) (.plain (A2 (Al.GB e0) (A2 rfl rfl)))
 rintro ⟨⟩
 exact BJ Hd.Aa [] [bw (.cells [.sc (.int .i64 0),.sc (.string ByteArray.empty),.sc (.string ByteArray.empty),.sc (.int .i64 0),.sc (.int .i64 0),.sc (.int .i64 0),.sc (.int .i64 0),.sc (.int .i64 0),.sl .full 0 [],.sl .full 0 [],.sc (.int .i64 0)]) (.cells [.sc (.int .i64 0),.sc (.string ByteArray.empty),.sc (.string ByteArray.empty),.sc (.int .i64 0),.sc (.int .i64 0),.sc (.int .i64 0),.sc (.int .i64 0),.sc (.int .i64 0),.sl .full 0 [],.sl .full 0 [],.sc (.int .i64 0)]) (.cells (.plain (A2 rfl (A2 rfl (A2 rfl (A2 rfl (A2 rfl (A2 rfl (A2 rfl (A2 rfl (A2 (LW rfl) (A2 (LW rfl) (A2 rfl rfl))))))))))))),bp (Al.pl source)] (Ab 300 [pb (GD hi0),Ct (BD .lost he0),pb hb1,pb hb2,pi mi0]) (by kernel_rfl) (k [(jv j0 0),.bool true,.bool true,.bool true,.bool false,.bool false])
 rintro ⟨⟩
 exact BJ Hd.Aa [] [bw (.cells [.sc (.int .i64 0),.sc (.string ByteArray.empty),.sc (.string ByteArray.empty),.sc (.int .i64 0),.sc (.int .i64 0),.sc (.int .i64 0),.sc (.int .i64 0),.sc (.int .i64 0),.sl .full 0 [],.sl .full 0 [],.sc (.int .i64 0)]) (.cells [.sc (.int .i64 0),.sc (.string ByteArray.empty),.sc (.string ByteArray.empty),.sc (.int .i64 0),.sc (.int .i64 0),.sc (.int .i64 0),.sc (.int .i64 0),.sc (.int .i64 0),.sl .full 0 [],.sl .full 0 [],.sc (.int .i64 0)]) (.cells (.plain (A2 rfl (A2 rfl (A2 rfl (A2 rfl (A2 rfl (A2 rfl (A2 rfl (A2 rfl (A2 (LW rfl) (A2 (LW rfl) (A2 rfl rfl))))))))))))),bp (Al.pl source)] (Ab 300 [pb (GD hi0),Ct (BD .lost he0),pb hb1,pi mi0]) (by kernel_rfl) (k [(jv j0 0),.bool true,.bool false,.bool false,undef,.bool false])
 rintro ⟨⟩ jx_1
 intro h
 have hE:=Option.some.inj h
 subst hE
 exact AG (v:=.A9 [.agg [.sc (.int .i64 0),.sc (.string ByteArray.empty),.sc (.string ByteArray.empty),.sc (.int .i64 0),.sc (.int .i64 0),.sc (.int .i64 0),.sc (.int .i64 0),.sc (.int .i64 0),.sl .full 0 [],.sl .full 0 [],.sc (.int .i64 0)],.sc (.bool false)]) _ _ (Cc 300 []) (by kernel_rfl) .body (.wn (.u (.g (.r (.r (.r (.r (.r (.r (.r (.r (.z (.z (.r .nil))))))))))) (.r .nil)) .nil) (A2 (Al.GB (⟨0,ByteArray.empty,ByteArray.empty,0,0,0,0,(⟨0,[]⟩:Fn),[],0⟩:Nd)) (A2 rfl rfl)))
noncomputable def wL:Code:=A3 Tryz.f61
theorem b61:Tryz.f61.body=some wL:=by kernel_rfl
noncomputable def DO  (number:Int) (i0:Nat) (e0:Nd) :Option (Lp Unit Unit (Nd×Bool)):=cond (Bq e0.kind 4) (cond (Bq e0.n number) (some (.rt (e0,true))) (some (.nx ()))) (some (.nx ()))
noncomputable def DA  (source:Nd) (number:Int):Option (Nd×Bool):=(It source.kids.length (AL (fun i y x=>DO  number i y ) (fun x=>()) (source.kids.drop 0) 0 ())).bind (Ii (fun (_:Unit)=>some ((⟨0,ByteArray.empty,ByteArray.empty,0,0,0,0,(⟨0,[]⟩:Fn),[],0⟩:Nd),false)) (fun v=>some v))
theorem Gr   {source:Nd} {number:Int} {yR:(Nd×Bool)} (h:DA  source number=some yR):Pure P G 61 [.agg (Bl source),.sc (.int .i64 number)] (.A9 [.agg (Bl yR.1),.sc (.bool yR.2)]):=by
 unfold DA at h
 refine BB Hd.mixed Hd.Aa (AB Tryz.func61 b61 ?_) (A2 (Al.GB source) (A2 rfl rfl)) (A2 (Al.GB yR.1) (A2 rfl rfl))
 revert h
 refine Fb (fun Q v=>Fq P Tryz.f61 0 Q (.A9 [.agg (Bl v.1),.sc (.bool v.2)])) (fun i0 (_:Unit) (j0:List Value)=>fr 31 [(1,.sc (.int .i64 number)),(2,.ptr 0 0),(4,.ptr 1 0),(6,.sc (.int .i64 ((i0:Nat):Int)))] [5,12,22,23,27,28] j0) (fun (_:Unit)=>⟨[(1,.cells [.sc (.int .i64 0),.sc (.string ByteArray.empty),.sc (.string ByteArray.empty),.sc (.int .i64 0),.sc (.int .i64 0),.sc (.int .i64 0),.sc (.int .i64 0),.sc (.int .i64 0),.sl .full 0 [],.sl .full 0 [],.sc (.int .i64 0)]),(0,.cells (Bl source))],2,[],0⟩) (fun (_:Unit) (jx:List Value)=>fr 31 [(4,.ptr 1 0)] [5,12,22,23,27,28] jx) (fun (_:Unit)=>⟨[(1,.cells [.sc (.int .i64 0),.sc (.string ByteArray.empty),.sc (.string ByteArray.empty),.sc (.int .i64 0),.sc (.int .i64 0),.sc (.int .i64 0),.sc (.int .i64 0),.sc (.int .i64 0),.sl .full 0 [],.sl .full 0 [],.sc (.int .i64 0)]),(0,.cells (Bl source))],2,[],0⟩) [.bool false] (EO [] 0 (sb wL 52) [.code (sb wL 7)] (Ab 300 []) (by kernel_rfl)) ?_ ?_ ?_ (fun v h=>by cases h;exact .outer .body)
 rintro i0 ⟨⟩ j0 hge hq
 exact CT (Ab 300 [pb (Kz hge)]) (by kernel_rfl) (hq (js 6 j0 [(1,.bool false)]))
 rintro i0 e0 ⟨⟩ j0 r he0 hi0 mi0 k
 show DO  number i0 e0 =some r→_
 unfold DO
 refine Ae (fun hb1=>?_) fun hb1=>?_
 refine Ae (fun hb2=>?_) fun hb2=>?_
 rintro ⟨⟩
 exact AG _ _ (Ab 300 [pb (GD hi0),Ct (BD .lost he0),pb hb1,pb hb2]) (by kernel_rfl) (.GS k) (.plain (A2 (Al.GB e0) (A2 rfl rfl)))
 rintro ⟨⟩
 exact BJ Hd.Aa [] [bw (.cells [.sc (.int .i64 0),.sc (.string ByteArray.empty),.sc (.string ByteArray.empty),.sc (.int .i64 0),.sc (.int .i64 0),.sc (.int .i64 0),.sc (.int .i64 0),.sc (.int .i64 0),.sl .full 0 [],.sl .full 0 [],.sc (.int .i64 0)]) (.cells [.sc (.int .i64 0),.sc (.string ByteArray.empty),.sc (.string ByteArray.empty),.sc (.int .i64 0),.sc (.int .i64 0),.sc (.int .i64 0),.sc (.int .i64 0),.sc (.int .i64 0),.sl .full 0 [],.sl .full 0 [],.sc (.int .i64 0)]) (.cells (.plain (A2 rfl (A2 rfl (A2 rfl (A2 rfl (A2 rfl (A2 rfl (A2 rfl (A2 rfl (A2 (LW rfl) (A2 (LW rfl) (A2 rfl rfl))))))))))))),bp (Al.pl source)] (Ab 300 [pb (GD hi0),Ct (BD .lost he0),pb hb1,pb hb2,pi mi0]) (by kernel_rfl) (k [(jv j0 0),.bool true,.bool true,.bool true,.bool false,.bool false])
 rintro ⟨⟩
 exact BJ Hd.Aa [] [bw (.cells [.sc (.int .i64 0),.sc (.string ByteArray.empty),.sc (.string ByteArray.empty),.sc (.int .i64 0),.sc (.int .i64 0),.sc (.int .i64 0),.sc (.int .i64 0),.sc (.int .i64 0),.sl .full 0 [],.sl .full 0 [],.sc (.int .i64 0)]) (.cells [.sc (.int .i64 0),.sc (.string ByteArray.empty),.sc (.string ByteArray.empty),.sc (.int .i64 0),.sc (.int .i64 0),.sc (.int .i64 0),.sc (.int .i64 0),.sc (.int .i64 0),.sl .full 0 [],.sl .full 0 [],.sc (.int .i64 0)]) (.cells (.plain (A2 rfl (A2 rfl (A2 rfl (A2 rfl (A2 rfl (A2 rfl (A2 rfl (A2 rfl (A2 (LW rfl) (A2 (LW rfl) (A2 rfl rfl))))))))))))),bp (Al.pl source)] (Ab 300 [pb (GD hi0),Ct (BD .lost he0),pb hb1,pi mi0]) (by kernel_rfl) (k [(jv j0 0),.bool true,.bool false,.bool false,undef,.bool false])
 rintro ⟨⟩ jx_1
 intro h
 have hE:=Option.some.inj h
 subst hE
 exact AG (v:=.A9 [.agg [.sc (.int .i64 0),.sc (.string ByteArray.empty),.sc (.string ByteArray.empty),.sc (.int .i64 0),.sc (.int .i64 0),.sc (.int .i64 0),.sc (.int .i64 0),.sc (.int .i64 0),.sl .full 0 [],.sl .full 0 [],.sc (.int .i64 0)],.sc (.bool false)]) _ _ (Cc 300 []) (by kernel_rfl) .body (.wn (.u (.g (.r (.r (.r (.r (.r (.r (.r (.r (.z (.z (.r .nil))))))))))) (.r .nil)) .nil) (A2 (Al.GB (⟨0,ByteArray.empty,ByteArray.empty,0,0,0,0,(⟨0,[]⟩:Fn),[],0⟩:Nd)) (A2 rfl rfl)))
noncomputable def B86:Code:=A3 Tryz.f86
theorem b86:Tryz.f86.body=some B86:=by kernel_rfl
noncomputable def Bi  (is:Bool):Option ByteArray:=cond is (some AO) (some ByteArray.empty)
theorem Bv   {is:Bool} {yR:ByteArray} (h:Bi  is=some yR):Pure P G 86 [.sc (.bool is)] (.sc (.string yR)):=by
 unfold Bi at h
 refine BB Hd.mixed Hd.Aa (AB Tryz.func86 b86 ?_) (A2 rfl rfl) rfl
 revert h
 refine Ae (fun hv=>?_) fun hv=>?_
 subst hv
 intro h
 have hE:=Option.some.inj h
 subst hE
 exact rS (Ab 300 []) (by kernel_rfl)
 subst hv
 intro h
 have hE:=Option.some.inj h
 subst hE
 exact rS (Ab 300 []) (by kernel_rfl)
noncomputable def B88:Code:=A3 Tryz.f88
theorem b88:Tryz.f88.body=some B88:=by kernel_rfl
noncomputable def CU  (unit:ByteArray):Option ByteArray:=cond (BA unit.data.toList AO.data.toList) (some ByteArray.empty) (some unit)
theorem DQ   {unit:ByteArray} {yR:ByteArray} (h:CU  unit=some yR):Pure P G 88 [.sc (.string unit)] (.sc (.string yR)):=by
 unfold CU at h
 refine BB Hd.mixed Hd.Aa (AB Tryz.func88 b88 ?_) (A2 rfl rfl) rfl
 revert h
 refine Ae (fun hb1=>?_) fun hb1=>?_
 intro h
 have hE:=Option.some.inj h
 subst hE
 exact rS (Ab 300 [pb hb1]) (by kernel_rfl)
 intro h
 have hE:=Option.some.inj h
 subst hE
 exact rS (Ab 300 [pb hb1]) (by kernel_rfl)
noncomputable def wR:Code:=A3 Tryz.f89
theorem b89:Tryz.f89.body=some wR:=by kernel_rfl
noncomputable def FE  (l:(List ByteArray)) (i0:Nat) (e0:ByteArray) :Option (Lp Unit Unit ByteArray):=(l[0]?).bind fun x1=>cond (BA e0.data.toList x1.data.toList) (some (.nx ())) (some (.rt ByteArray.empty))
noncomputable def DK  (l:(List ByteArray)):Option ByteArray:=(It l.length (AL (fun i y x=>FE  l i y ) (fun x=>()) (l.drop 1) 1 ())).bind (Ii (fun (_:Unit)=>(l[0]?).bind fun x3=>some x3) (fun v=>some v))
theorem Hg   {l:(List ByteArray)} {yR:ByteArray} (h:DK  l=some yR):Pure P G 89 [.sl .lost l.length (rows IW l)] (.sc (.string yR)):=by
 unfold DK at h
 refine BB Hd.mixed Hd.Aa (AB Tryz.func89 b89 ?_) (A2 (Bc.B9 l) rfl) rfl
 revert h
 refine Fb (fun Q v=>Fq P Tryz.f89 0 Q (.sc (.string v))) (fun i0 (_:Unit) (j0:List Value)=>fr 21 [(0,.sl .lost l.length (rows IW l)),(3,.sc (.int .i64 ((i0:Nat):Int)))] [7,17] j0) (fun (_:Unit)=>⟨[],0,[],0⟩) (fun (_:Unit) (jx:List Value)=>fr 21 [(0,.sl .lost l.length (rows IW l))] [7,17] jx) (fun (_:Unit)=>⟨[],0,[],0⟩) [] (EO [] 0 (sb wR 52) [.code (sb wR 7)] (Ab 300 []) (by kernel_rfl)) ?_ ?_ ?_ (fun v h=>by cases h;exact .outer .body)
 rintro i0 ⟨⟩ j0 hge hq
 exact CT (Ab 300 [pb (Kz hge)]) (by kernel_rfl) (hq [.bool false,(jv j0 1)])
 rintro i0 e0 ⟨⟩ j0 r he0 hi0 mi0 k
 show FE  l i0 e0 =some r→_
 unfold FE
 refine Ah fun x1 hx1=>?_
 refine Ae (fun hb1=>?_) fun hb1=>?_
 rintro ⟨⟩
 exact D6 (Ab 300 [pb (GD hi0),Ct (Ni .lost he0),Ct (Ni .lost hx1),pn hb1,pi mi0]) (by kernel_rfl) (k [.bool true,.bool false])
 rintro ⟨⟩
 exact AG _ _ (Ab 300 [pb (GD hi0),Ct (Ni .lost he0),Ct (Ni .lost hx1),pn hb1]) (by kernel_rfl) (.GS k) .sc
 rintro ⟨⟩ jx_2
 refine Ah fun x3 hx3=>?_
 intro h
 have hE:=Option.some.inj h
 subst hE
 exact AG _ _ (Cc 300 [Ct (Ni .lost hx3)]) (by kernel_rfl) .body .sc
noncomputable def B87:Code:=A3 Tryz.f87
theorem b87:Tryz.f87.body=some B87:=by kernel_rfl
noncomputable def Fu  (op:ByteArray) (a:ByteArray) (b:ByteArray):Option ByteArray:=cond (BA op.data.toList SO.data.toList) (cond (BA a.data.toList AO.data.toList) ((some (BA b.data.toList AO.data.toList)).bind fun q1=>(Bi q1).bind fun y2=>some y2) ((Bi false).bind fun y3=>some y3)) ((some (BA op.data.toList Iq.data.toList)).bind fun q4=>cond q4 (cond (BA a.data.toList AO.data.toList) ((some (BA b.data.toList AO.data.toList)).bind fun q5=>(Bi q5).bind fun y6=>some y6) ((Bi false).bind fun y7=>some y7)) (cond (BA op.data.toList Ij.data.toList) ((some (BA a.data.toList b.data.toList)).bind fun q8=>(Bi q8).bind fun y9=>some y9) ((some (BA op.data.toList Hh.data.toList)).bind fun q10=>cond q10 ((some (BA a.data.toList b.data.toList)).bind fun q11=>(Bi q11).bind fun y12=>some y12) (cond (BA op.data.toList On.data.toList) (cond (BA a.data.toList b.data.toList) ((some (!BA a.data.toList AO.data.toList)).bind fun q13=>(Bi q13).bind fun y14=>some y14) ((Bi false).bind fun y15=>some y15)) ((some (BA op.data.toList Hp.data.toList)).bind fun q16=>cond q16 (cond (BA a.data.toList b.data.toList) ((some (!BA a.data.toList AO.data.toList)).bind fun q17=>(Bi q17).bind fun y18=>some y18) ((Bi false).bind fun y19=>some y19)) (cond (BA op.data.toList KK.data.toList) ((DK [a,b]).bind fun y20=>(CU y20).bind fun y21=>some y21) ((some (BA op.data.toList NW.data.toList)).bind fun q22=>cond q22 ((DK [a,b]).bind fun y23=>(CU y23).bind fun y24=>some y24) (cond (BA op.data.toList Om.data.toList) (cond (BA a.data.toList Bj.data.toList) ((CU b).bind fun y25=>some y25) (cond (BA b.data.toList Bj.data.toList) ((CU a).bind fun y26=>some y26) (some ByteArray.empty))) (cond (BA op.data.toList JD.data.toList) ((CU a).bind fun y27=>some y27) (cond (BA a.data.toList B2.data.toList) ((Db b).bind fun y28=>cond y28 (some b) (some ByteArray.empty)) (some ByteArray.empty)))))))))))
theorem Na   {op:ByteArray} {a:ByteArray} {b:ByteArray} {yR:ByteArray} (h:Fu  op a b=some yR):Pure P G 87 [.sc (.string op),.sc (.string a),.sc (.string b)] (.sc (.string yR)):=by
 unfold Fu at h
 refine BB Hd.mixed Hd.Aa (AB Tryz.func87 b87 ?_) (A2 rfl (A2 rfl (A2 rfl rfl))) rfl
 revert h
 refine Ae (fun hb1=>?_) fun hb1=>?_
 refine Ae (fun hb2=>?_) fun hb2=>?_
 refine Ah fun q1 hq1=>?_
 refine Ah fun y2 hy2=>?_
 intro h
 have hE:=Option.some.inj h
 subst hE
 exact rS (Ab 300 [pb hb1,pb hb2,HY (La hq1 (.tmp 14) (.const (.string AO))),Ak (Bv hy2)]) (by kernel_rfl)
 refine Ah fun y3 hy3=>?_
 intro h
 have hE:=Option.some.inj h
 subst hE
 exact rS (Ab 300 [pb hb1,pb hb2,Ak (Bv hy3)]) (by kernel_rfl)
 refine Ah fun q4 hq4=>?_
 let o1:List (PC P G):=[pb hb1,HY (La hq4 (.tmp 7) (.const (.string Iq)))]
 refine Ae (fun hv=>?_) fun hv=>?_
 subst hv
 refine Ae (fun hb3=>?_) fun hb3=>?_
 refine Ah fun q5 hq5=>?_
 refine Ah fun y6 hy6=>?_
 intro h
 have hE:=Option.some.inj h
 subst hE
 exact rS (Ab 300 (o1++[pb hb3,HY (La hq5 (.tmp 14) (.const (.string AO))),Ak (Bv hy6)])) (by kernel_rfl)
 refine Ah fun y7 hy7=>?_
 intro h
 have hE:=Option.some.inj h
 subst hE
 exact rS (Ab 300 (o1++[pb hb3,Ak (Bv hy7)])) (by kernel_rfl)
 subst hv
 refine Ae (fun hb4=>?_) fun hb4=>?_
 refine Ah fun q8 hq8=>?_
 refine Ah fun y9 hy9=>?_
 intro h
 have hE:=Option.some.inj h
 subst hE
 exact rS (Ab 300 (o1++[pb hb4,HY (La hq8 (.tmp 21) (.tmp 22)),Ak (Bv hy9)])) (by kernel_rfl)
 refine Ah fun q10 hq10=>?_
 let o2:List (PC P G):=o1++[pb hb4,HY (La hq10 (.tmp 7) (.const (.string Hh)))]
 refine Ae (fun hv=>?_) fun hv=>?_
 subst hv
 refine Ah fun q11 hq11=>?_
 refine Ah fun y12 hy12=>?_
 intro h
 have hE:=Option.some.inj h
 subst hE
 exact rS (Ab 300 (o2++[HY (La hq11 (.tmp 21) (.tmp 22)),Ak (Bv hy12)])) (by kernel_rfl)
 subst hv
 refine Ae (fun hb5=>?_) fun hb5=>?_
 refine Ae (fun hb6=>?_) fun hb6=>?_
 refine Ah fun q13 hq13=>?_
 refine Ah fun y14 hy14=>?_
 intro h
 have hE:=Option.some.inj h
 subst hE
 exact rS (Ab 300 (o2++[pb hb5,pb hb6,HY (jE hq13 (.tmp 32) (.const (.string AO))),Ak (Bv hy14)])) (by kernel_rfl)
 refine Ah fun y15 hy15=>?_
 intro h
 have hE:=Option.some.inj h
 subst hE
 exact rS (Ab 300 (o2++[pb hb5,pb hb6,Ak (Bv hy15)])) (by kernel_rfl)
 refine Ah fun q16 hq16=>?_
 let o3:List (PC P G):=o2++[pb hb5,HY (La hq16 (.tmp 7) (.const (.string Hp)))]
 refine Ae (fun hv=>?_) fun hv=>?_
 subst hv
 refine Ae (fun hb7=>?_) fun hb7=>?_
 refine Ah fun q17 hq17=>?_
 refine Ah fun y18 hy18=>?_
 intro h
 have hE:=Option.some.inj h
 subst hE
 exact rS (Ab 300 (o3++[pb hb7,HY (jE hq17 (.tmp 32) (.const (.string AO))),Ak (Bv hy18)])) (by kernel_rfl)
 refine Ah fun y19 hy19=>?_
 intro h
 have hE:=Option.some.inj h
 subst hE
 exact rS (Ab 300 (o3++[pb hb7,Ak (Bv hy19)])) (by kernel_rfl)
 subst hv
 refine Ae (fun hb8=>?_) fun hb8=>?_
 refine Ah fun y20 hy20=>?_
 refine Ah fun y21 hy21=>?_
 intro h
 have hE:=Option.some.inj h
 subst hE
 exact rS (Ab 300 (o3++[pb hb8,Eg (args:=[.sl .full 2 [.sc (.string a),.sc (.string b)]]) (.d (.r (.r .nil)) (Bc.eq [a,b]).symm .nil) (Hg hy20),Ak (DQ hy21)])) (by kernel_rfl)
 refine Ah fun q22 hq22=>?_
 let o4:List (PC P G):=o3++[pb hb8,HY (La hq22 (.tmp 7) (.const (.string NW)))]
 refine Ae (fun hv=>?_) fun hv=>?_
 subst hv
 refine Ah fun y23 hy23=>?_
 refine Ah fun y24 hy24=>?_
 intro h
 have hE:=Option.some.inj h
 subst hE
 exact rS (Ab 300 (o4++[Eg (args:=[.sl .full 2 [.sc (.string a),.sc (.string b)]]) (.d (.r (.r .nil)) (Bc.eq [a,b]).symm .nil) (Hg hy23),Ak (DQ hy24)])) (by kernel_rfl)
 subst hv
 refine Ae (fun hb9=>?_) fun hb9=>?_
 refine Ae (fun hb10=>?_) fun hb10=>?_
 refine Ah fun y25 hy25=>?_
 intro h
 have hE:=Option.some.inj h
 subst hE
 exact rS (Ab 300 (o4++[pb hb9,pb hb10,Ak (DQ hy25)])) (by kernel_rfl)
 refine Ae (fun hb11=>?_) fun hb11=>?_
 refine Ah fun y26 hy26=>?_
 intro h
 have hE:=Option.some.inj h
 subst hE
 exact rS (Ab 300 (o4++[pb hb9,pb hb10,pb hb11,Ak (DQ hy26)])) (by kernel_rfl)
 intro h
 have hE:=Option.some.inj h
 subst hE
 exact rS (Ab 300 (o4++[pb hb9,pb hb10,pb hb11])) (by kernel_rfl)
 refine Ae (fun hb12=>?_) fun hb12=>?_
 refine Ah fun y27 hy27=>?_
 intro h
 have hE:=Option.some.inj h
 subst hE
 exact rS (Ab 300 (o4++[pb hb9,pb hb12,Ak (DQ hy27)])) (by kernel_rfl)
 refine Ae (fun hb13=>?_) fun hb13=>?_
 refine Ah fun y28 hy28=>?_
 refine Ae (fun hv=>?_) fun hv=>?_
 subst hv
 intro h
 have hE:=Option.some.inj h
 subst hE
 exact rS (Ab 300 (o4++[pb hb9,pb hb12,pb hb13,Ak (DB hy28)])) (by kernel_rfl)
 subst hv
 intro h
 have hE:=Option.some.inj h
 subst hE
 exact rS (Ab 300 (o4++[pb hb9,pb hb12,pb hb13,Ak (DB hy28)])) (by kernel_rfl)
 intro h
 have hE:=Option.some.inj h
 subst hE
 exact rS (Ab 300 (o4++[pb hb9,pb hb12,pb hb13])) (by kernel_rfl)
noncomputable def B57:Code:=A3 Tryz.f57
theorem b57:Tryz.f57.body=some B57:=by kernel_rfl
noncomputable def Dp  (c:Cq) (e:Nd) (l:(List ByteArray)):Option (ByteArray×Int):=cond (Bq e.kind 11) (some (e.unit,0)) (cond (Bq e.kind 12) ((DL c.src 2 e.name).bind fun (y1a,y1b)=>some (y1a.unit,91)) (cond (Bq e.kind 13) ((DA c.src e.n).bind fun (y2a,y2b)=>(DL c.src 3 y2a.name).bind fun (y3a,y3b)=>some (y3a.unit,91)) (cond (Bq e.kind 14) (some (Bj,0)) (cond (Bq e.kind 15) ((l[0]?).bind fun x4=>cond (BA x4.data.toList AO.data.toList) ((Bi true).bind fun y5=>some (y5,11)) ((Bi false).bind fun y6=>some (y6,11))) (cond (Bq e.kind 16) ((l[0]?).bind fun x7=>(l[1]?).bind fun x8=>(Fu e.name x7 x8).bind fun y9=>some (y9,11)) (cond (Bq e.kind 17) ((DK l).bind fun y10=>(CU y10).bind fun y11=>some (y11,11)) ((l[0]?).bind fun x12=>(Db x12).bind fun y13=>cond y13 (some (x12,0)) (some (ByteArray.empty,11)))))))))
theorem K2 {c:Cq} {e:Nd} {l:(List ByteArray)} {yR:(ByteArray×Int)} (hS:Sound P G (.call 57 [.ptr 0 0,.agg (Bl e),.sl .lost l.length (rows IW l)] ⟨[(0,.cells (GQ 0 c))],1,[(0,c.diags.length)],1⟩ (.ret (.A9 [.sc (.string yR.1),.sc (.int .i64 yR.2)])) ⟨[(0,.cells (GQ 0 c))],1,[(0,c.diags.length)],1⟩)) (u0 v0:Nat) (hnb:[u0].Nodup:=by decide) (hnt:([v0]:List Nat).Nodup:=by decide):Cd.ok P G (.callU 57 [.ptr u0 0,.agg (Bl e),.sl .lost l.length (rows IW l)] (.ret (.A9 [.sc (.string yR.1),.sc (.int .i64 yR.2)])) [(u0,.cells (GQ v0 c))] [(v0,c.diags.length)] [(u0,.cells (GQ v0 c))] [(v0,c.diags.length)]) :=
 DE (M:=[.cells (GQ 0 c)]) (M2:=[.cells (GQ 0 c)]) (T:=[c.diags.length]) (T2:=[c.diags.length]) (k:=1) (j:=1) Hd.Aa _ _ _ _ hS rfl rfl rfl rfl rfl hnb hnt rfl rfl (.cons (.cells (K6 c (by decide))) .nil) (.cons (.cells (K6 c (by decide))) .nil) (.cons (.ptr (by decide)) (.cons (.pl (Al.GB e)) (.cons (.pl (Bc.B9 l)) .nil))) (.pl (A2 rfl (A2 rfl rfl))) (fun e he=>by simp only [List.mem_singleton] at he;subst he;exact (.arg (.here .ptr)))
theorem J0   {c:Cq} {e:Nd} {l:(List ByteArray)} {yR:(ByteArray×Int)} (h:Dp  c e l=some yR):Sound P G (.call 57 [.ptr 0 0,.agg (Bl e),.sl .lost l.length (rows IW l)] ⟨[(0,.cells (GQ 0 c))],1,[(0,c.diags.length)],1⟩ (.ret (.A9 [.sc (.string yR.1),.sc (.int .i64 yR.2)])) ⟨[(0,.cells (GQ 0 c))],1,[(0,c.diags.length)],1⟩):=by
 unfold Dp at h
 refine DI Hd.mixed (AB Tryz.func57 b57 ?_)
 revert h
 refine Ae (fun hb1=>?_) fun hb1=>?_
 intro h
 have hE:=Option.some.inj h
 subst hE
 exact An Hd.Aa _ _ [⟨.A9 [.sc (.string e.unit),.sc (.int .i64 0)],.A9 [.sc (.string e.unit),.sc (.int .i64 0)],(.plain (A2 rfl (A2 rfl rfl)))⟩] [bu (GQ 0 c) (F5 rfl)] (Ab 300 [pb hb1]) (by kernel_rfl) .body
 refine Ae (fun hb2=>?_) fun hb2=>?_
 refine Ah ?_
 rintro ⟨y1a,y1b⟩ hy1
 dsimp only
 intro h
 have hE:=Option.some.inj h
 subst hE
 exact An Hd.Aa _ _ [⟨.A9 [.sc (.string y1a.unit),.sc (.int .i64 91)],.A9 [.sc (.string y1a.unit),.sc (.int .i64 91)],(.plain (A2 rfl (A2 rfl rfl)))⟩] [bu (GQ 0 c) (F5 rfl)] (Ab 300 [pb hb1,pb hb2,Ak (FT hy1)]) (by kernel_rfl) .body
 let o1:List (PC P G):=[pb hb1,pb hb2]
 refine Ae (fun hb3=>?_) fun hb3=>?_
 refine Ah ?_
 rintro ⟨y2a,y2b⟩ hy2
 dsimp only
 refine Ah ?_
 rintro ⟨y3a,y3b⟩ hy3
 dsimp only
 intro h
 have hE:=Option.some.inj h
 subst hE
 exact An Hd.Aa _ _ [⟨.A9 [.sc (.string y3a.unit),.sc (.int .i64 91)],.A9 [.sc (.string y3a.unit),.sc (.int .i64 91)],(.plain (A2 rfl (A2 rfl rfl)))⟩] [bu (GQ 0 c) (F5 rfl)] (Ab 300 (o1++[pb hb3,Ak (Gr hy2),Ak (FT hy3)])) (by kernel_rfl) .body
 refine Ae (fun hb4=>?_) fun hb4=>?_
 intro h
 have hE:=Option.some.inj h
 subst hE
 exact An Hd.Aa _ _ [⟨.A9 [.sc (.string Bj),.sc (.int .i64 0)],.A9 [.sc (.string Bj),.sc (.int .i64 0)],(.plain (A2 rfl (A2 rfl rfl)))⟩] [bu (GQ 0 c) (F5 rfl)] (Ab 300 (o1++[pb hb3,pb hb4])) (by kernel_rfl) .body
 let o2:List (PC P G):=o1++[pb hb3,pb hb4]
 refine Ae (fun hb5=>?_) fun hb5=>?_
 refine Ah fun x4 hx4=>?_
 refine Ae (fun hb6=>?_) fun hb6=>?_
 refine Ah fun y5 hy5=>?_
 intro h
 have hE:=Option.some.inj h
 subst hE
 exact An Hd.Aa _ _ [⟨.A9 [.sc (.string y5),.sc (.int .i64 11)],.A9 [.sc (.string y5),.sc (.int .i64 11)],(.plain (A2 rfl (A2 rfl rfl)))⟩] [bu (GQ 0 c) (F5 rfl)] (Ab 300 (o2++[pb hb5,Ct (Ni .lost hx4),pb hb6,Ak (Bv hy5)])) (by kernel_rfl) .body
 refine Ah fun y6 hy6=>?_
 intro h
 have hE:=Option.some.inj h
 subst hE
 exact An Hd.Aa _ _ [⟨.A9 [.sc (.string y6),.sc (.int .i64 11)],.A9 [.sc (.string y6),.sc (.int .i64 11)],(.plain (A2 rfl (A2 rfl rfl)))⟩] [bu (GQ 0 c) (F5 rfl)] (Ab 300 (o2++[pb hb5,Ct (Ni .lost hx4),pb hb6,Ak (Bv hy6)])) (by kernel_rfl) .body
 refine Ae (fun hb7=>?_) fun hb7=>?_
 refine Ah fun x7 hx7=>?_
 refine Ah fun x8 hx8=>?_
 refine Ah fun y9 hy9=>?_
 intro h
 have hE:=Option.some.inj h
 subst hE
 exact An Hd.Aa _ _ [⟨.A9 [.sc (.string y9),.sc (.int .i64 11)],.A9 [.sc (.string y9),.sc (.int .i64 11)],(.plain (A2 rfl (A2 rfl rfl)))⟩] [bu (GQ 0 c) (F5 rfl)] (Ab 300 (o2++[pb hb5,pb hb7,Ct (Ni .lost hx7),Ct (Ni .lost hx8),Ak (Na hy9)])) (by kernel_rfl) .body
 refine Ae (fun hb8=>?_) fun hb8=>?_
 refine Ah fun y10 hy10=>?_
 refine Ah fun y11 hy11=>?_
 intro h
 have hE:=Option.some.inj h
 subst hE
 exact An Hd.Aa _ _ [⟨.A9 [.sc (.string y11),.sc (.int .i64 11)],.A9 [.sc (.string y11),.sc (.int .i64 11)],(.plain (A2 rfl (A2 rfl rfl)))⟩] [bu (GQ 0 c) (F5 rfl)] (Ab 300 (o2++[pb hb5,pb hb7,pb hb8,Ak (Hg hy10),Ak (DQ hy11)])) (by kernel_rfl) .body
 refine Ah fun x12 hx12=>?_
 refine Ah fun y13 hy13=>?_
 let o3:List (PC P G):=o2++[pb hb5,pb hb7,pb hb8,Ct (Ni .lost hx12),Ak (DB hy13)]
 refine Ae (fun hv=>?_) fun hv=>?_
 subst hv
 intro h
 have hE:=Option.some.inj h
 subst hE
 exact An Hd.Aa _ _ [⟨.A9 [.sc (.string x12),.sc (.int .i64 0)],.A9 [.sc (.string x12),.sc (.int .i64 0)],(.plain (A2 rfl (A2 rfl rfl)))⟩] [bu (GQ 0 c) (F5 rfl)] (Ab 300 (o3++[Ct (Ni .lost hx12)])) (by kernel_rfl) .body
 subst hv
 intro h
 have hE:=Option.some.inj h
 subst hE
 exact An Hd.Aa _ _ [⟨.A9 [.sc (.string ByteArray.empty),.sc (.int .i64 11)],.A9 [.sc (.string ByteArray.empty),.sc (.int .i64 11)],(.plain (A2 rfl (A2 rfl rfl)))⟩] [bu (GQ 0 c) (F5 rfl)] (Ab 300 o3) (by kernel_rfl) .body
noncomputable def B58:Code:=A3 Tryz.f58
theorem b58:Tryz.f58.body=some B58:=by kernel_rfl
noncomputable def AY  (c:Cq) (e:Int) (at_:Int):Option (Unit×(List Dg)):=cond (F4 ((c.diags.length:Nat):Int) 20) (SY (c.diags.length+1) (some ((),(c.diags++[(⟨e,at_⟩:Dg)])))) (some ((),c.diags))
theorem Bd {c:Cq} {e:Int} {at_:Int} {qc_diagsR:(List Dg)} (hS:Sound P G (.call 58 [.ptr 0 0,.sc (.int .i64 e),.sc (.int .i64 at_)] ⟨[(0,.cells (GQ 0 c))],1,[(0,c.diags.length)],1⟩ (.ret (.A9 [])) ⟨[(0,.cells [.sc (.int .i64 c.src.kind),.sc (.string c.src.name),.sc (.string c.src.unit),.sc (.int .i64 c.src.n),.sc (.int .i64 c.src.fr),.sc (.int .i64 c.src.to),.sc (.int .i64 c.src.known),.sc (.int .i64 c.src.tab.den),.sl .lost c.src.tab.ps.length (rows El c.src.tab.ps),.sl .lost c.src.kids.length (Ba c.src.kids),.sc (.int .i64 c.src.att),.sl (.row 0 2) qc_diagsR.length (rows BV qc_diagsR)])],1,[(0,qc_diagsR.length)],1⟩)) (u0 v0:Nat) (hnb:[u0].Nodup:=by decide) (hnt:([v0]:List Nat).Nodup:=by decide):Cd.ok P G (.callU 58 [.ptr u0 0,.sc (.int .i64 e),.sc (.int .i64 at_)] (.ret (.A9 [])) [(u0,.cells (GQ v0 c))] [(v0,c.diags.length)] [(u0,.cells [.sc (.int .i64 c.src.kind),.sc (.string c.src.name),.sc (.string c.src.unit),.sc (.int .i64 c.src.n),.sc (.int .i64 c.src.fr),.sc (.int .i64 c.src.to),.sc (.int .i64 c.src.known),.sc (.int .i64 c.src.tab.den),.sl .lost c.src.tab.ps.length (rows El c.src.tab.ps),.sl .lost c.src.kids.length (Ba c.src.kids),.sc (.int .i64 c.src.att),.sl (.row v0 2) qc_diagsR.length (rows BV qc_diagsR)])] [(v0,qc_diagsR.length)]) :=
 DE (M:=[.cells (GQ 0 c)]) (M2:=[.cells [.sc (.int .i64 c.src.kind),.sc (.string c.src.name),.sc (.string c.src.unit),.sc (.int .i64 c.src.n),.sc (.int .i64 c.src.fr),.sc (.int .i64 c.src.to),.sc (.int .i64 c.src.known),.sc (.int .i64 c.src.tab.den),.sl .lost c.src.tab.ps.length (rows El c.src.tab.ps),.sl .lost c.src.kids.length (Ba c.src.kids),.sc (.int .i64 c.src.att),.sl (.row 0 2) qc_diagsR.length (rows BV qc_diagsR)]]) (T:=[c.diags.length]) (T2:=[qc_diagsR.length]) (k:=1) (j:=1) Hd.Aa _ _ _ _ hS rfl rfl rfl rfl rfl hnb hnt rfl rfl (.cons (.cells (K6 c (by decide))) .nil) (.cons (.cells (.cons (.pl rfl) (.cons (.pl rfl) (.cons (.pl rfl) (.cons (.pl rfl) (.cons (.pl rfl) (.cons (.pl rfl) (.cons (.pl rfl) (.cons (.pl rfl) (.cons (.pl (CS.B9 c.src.tab.ps)) (.cons (.pl (Al.B9 c.src.kids)) (.cons (.pl rfl) (.cons (.row (by decide) (AF.A2 qc_diagsR)) .nil))))))))))))) .nil) (.cons (.ptr (by decide)) (.cons (.pl rfl) (.cons (.pl rfl) .nil))) (.pl rfl) (fun e he=>by simp only [List.mem_singleton] at he;subst he;exact (.arg (.here .ptr)))
theorem A7   {c:Cq} {e:Int} {at_:Int} {yR:Unit} {qc_diagsR:(List Dg)} (h:AY  c e at_=some (yR,qc_diagsR)):Sound P G (.call 58 [.ptr 0 0,.sc (.int .i64 e),.sc (.int .i64 at_)] ⟨[(0,.cells (GQ 0 c))],1,[(0,c.diags.length)],1⟩ (.ret (.A9 [])) ⟨[(0,.cells [.sc (.int .i64 c.src.kind),.sc (.string c.src.name),.sc (.string c.src.unit),.sc (.int .i64 c.src.n),.sc (.int .i64 c.src.fr),.sc (.int .i64 c.src.to),.sc (.int .i64 c.src.known),.sc (.int .i64 c.src.tab.den),.sl .lost c.src.tab.ps.length (rows El c.src.tab.ps),.sl .lost c.src.kids.length (Ba c.src.kids),.sc (.int .i64 c.src.att),.sl (.row 0 2) qc_diagsR.length (rows BV qc_diagsR)])],1,[(0,qc_diagsR.length)],1⟩):=by
 unfold AY at h
 refine DI Hd.mixed (AB Tryz.func58 b58 ?_)
 revert h
 refine Ae (fun hb1=>?_) fun hb1=>?_
 refine Z0 fun hl1=>?_
 intro h
 have hE:=Option.some.inj h
 obtain ⟨hE0,hF0⟩:=Prod.mk.inj hE
 subst hE0 hF0
 exact D1 Hd.Aa _ _ [⟨.A9 [],.A9 [],(.plain rfl)⟩] [bu [.sc (.int .i64 c.src.kind),.sc (.string c.src.name),.sc (.string c.src.unit),.sc (.int .i64 c.src.n),.sc (.int .i64 c.src.fr),.sc (.int .i64 c.src.to),.sc (.int .i64 c.src.known),.sc (.int .i64 c.src.tab.den),.sl .lost c.src.tab.ps.length (rows El c.src.tab.ps),.sl .lost c.src.kids.length (Ba c.src.kids),.sc (.int .i64 c.src.att),.sl (.row 0 2) ((c.diags++[(⟨e,at_⟩:Dg)]).length) (rows BV (c.diags++[(⟨e,at_⟩:Dg)]))] (A5 rfl (A5 rfl (A5 rfl (A5 rfl (A5 rfl (A5 rfl (A5 rfl (A5 rfl (A5 (Am _ _ (CS.B9 c.src.tab.ps)) (A5 (Am _ _ (Al.B9 c.src.kids)) (A5 rfl (A5 (IQ rfl (AJ _ _ (AF.A2 (c.diags++[(⟨e,at_⟩:Dg)])))) rfl))))))))))))] (Ab 300 [pb hb1,aB (jF (.row 0 2) c.diags [(⟨e,at_⟩:Dg)] (o:=.full) (n:=1) (ns:=[.sc (.int .i64 e),.sc (.int .i64 at_)]) (AF.wn [(⟨e,at_⟩:Dg)] (.r (.r .nil))) rfl rfl (by simp) (by simpa using hl1))]) (by kernel_rfl)
 intro h
 have hE:=Option.some.inj h
 obtain ⟨hE0,hF0⟩:=Prod.mk.inj hE
 subst hE0 hF0
 exact D1 Hd.Aa _ _ [⟨.A9 [],.A9 [],(.plain rfl)⟩] [bu (GQ 0 c) (F5 rfl)] (Ab 300 [pb hb1]) (by kernel_rfl)
theorem Fx {c:Cq} {e:Nd} {yR:ByteArray} {qc_diagsR:(List Dg)} (hS:Sound P G (.call 33 [.ptr 0 0,.agg (Bl e)] ⟨[(0,.cells (GQ 0 c))],1,[(0,c.diags.length)],1⟩ (.ret (.sc (.string yR))) ⟨[(0,.cells [.sc (.int .i64 c.src.kind),.sc (.string c.src.name),.sc (.string c.src.unit),.sc (.int .i64 c.src.n),.sc (.int .i64 c.src.fr),.sc (.int .i64 c.src.to),.sc (.int .i64 c.src.known),.sc (.int .i64 c.src.tab.den),.sl .lost c.src.tab.ps.length (rows El c.src.tab.ps),.sl .lost c.src.kids.length (Ba c.src.kids),.sc (.int .i64 c.src.att),.sl (.row 0 2) qc_diagsR.length (rows BV qc_diagsR)])],1,[(0,qc_diagsR.length)],1⟩)) (u0 v0:Nat) (hnb:[u0].Nodup:=by decide) (hnt:([v0]:List Nat).Nodup:=by decide):Cd.ok P G (.callU 33 [.ptr u0 0,.agg (Bl e)] (.ret (.sc (.string yR))) [(u0,.cells (GQ v0 c))] [(v0,c.diags.length)] [(u0,.cells [.sc (.int .i64 c.src.kind),.sc (.string c.src.name),.sc (.string c.src.unit),.sc (.int .i64 c.src.n),.sc (.int .i64 c.src.fr),.sc (.int .i64 c.src.to),.sc (.int .i64 c.src.known),.sc (.int .i64 c.src.tab.den),.sl .lost c.src.tab.ps.length (rows El c.src.tab.ps),.sl .lost c.src.kids.length (Ba c.src.kids),.sc (.int .i64 c.src.att),.sl (.row v0 2) qc_diagsR.length (rows BV qc_diagsR)])] [(v0,qc_diagsR.length)]) :=
 DE (M:=[.cells (GQ 0 c)]) (M2:=[.cells [.sc (.int .i64 c.src.kind),.sc (.string c.src.name),.sc (.string c.src.unit),.sc (.int .i64 c.src.n),.sc (.int .i64 c.src.fr),.sc (.int .i64 c.src.to),.sc (.int .i64 c.src.known),.sc (.int .i64 c.src.tab.den),.sl .lost c.src.tab.ps.length (rows El c.src.tab.ps),.sl .lost c.src.kids.length (Ba c.src.kids),.sc (.int .i64 c.src.att),.sl (.row 0 2) qc_diagsR.length (rows BV qc_diagsR)]]) (T:=[c.diags.length]) (T2:=[qc_diagsR.length]) (k:=1) (j:=1) Hd.Aa _ _ _ _ hS rfl rfl rfl rfl rfl hnb hnt rfl rfl (.cons (.cells (K6 c (by decide))) .nil) (.cons (.cells (.cons (.pl rfl) (.cons (.pl rfl) (.cons (.pl rfl) (.cons (.pl rfl) (.cons (.pl rfl) (.cons (.pl rfl) (.cons (.pl rfl) (.cons (.pl rfl) (.cons (.pl (CS.B9 c.src.tab.ps)) (.cons (.pl (Al.B9 c.src.kids)) (.cons (.pl rfl) (.cons (.row (by decide) (AF.A2 qc_diagsR)) .nil))))))))))))) .nil) (.cons (.ptr (by decide)) (.cons (.pl (Al.GB e)) .nil)) (.pl rfl) (fun e he=>by simp only [List.mem_singleton] at he;subst he;exact (.arg (.here .ptr)))
noncomputable def uU:Code:=A3 Tryz.f33
theorem b33:Tryz.f33.body=some uU:=by kernel_rfl
noncomputable def Cy (Ch:Cq→Nd→Option (ByteArray×(List Dg))) (c:Cq) (i0:Nat) (e0:Nd) (l5:(List ByteArray)) (whole6:Bool) (w0_11:(List Dg)):Option (Lp ((List ByteArray)×Bool×(List Dg)) ((List ByteArray)×Bool×(List Dg)) (ByteArray×(List Dg))):=(Ch (⟨c.src,w0_11⟩:Cq) e0).bind fun (y2a,y2b)=>SY (l5.length+1) (cond whole6 (cond (BA y2a.data.toList ByteArray.empty.data.toList) (some (.nx ((l5++[y2a]),false,y2b))) (some (.nx ((l5++[y2a]),true,y2b)))) (some (.nx ((l5++[y2a]),false,y2b))))
noncomputable def Eb (Ch:Cq→Nd→Option (ByteArray×(List Dg))) (c:Cq) (e:Nd):Option (ByteArray×(List Dg)):=(It e.kids.length (AL (fun i y x=>Cy Ch c i y x.1 x.2.1 x.2.2) (fun x=>(x.1,x.2.1,x.2.2)) (e.kids.drop 0) 0 ([],true,c.diags))).bind (Ii (fun ((l5_4,whole6_4,w0_11_4):((List ByteArray)×Bool×(List Dg)))=>cond whole6_4 ((Dp (⟨c.src,w0_11_4⟩:Cq) e l5_4).bind fun (y5a,y5b)=>cond (BA y5a.data.toList ByteArray.empty.data.toList) ((AY (⟨c.src,w0_11_4⟩:Cq) y5b e.att).bind fun (y6a,y6b)=>some (y5a,y6b)) (some (y5a,w0_11_4))) (some (ByteArray.empty,w0_11_4))) (fun v=>some v))
theorem JT (Ch:Cq→Nd→Option (ByteArray×(List Dg))) (KF:∀ {c:Cq} {e:Nd} {yR:ByteArray} {qc_diagsR:(List Dg)},Ch c e=some (yR,qc_diagsR)→Sound P G (.call 33 [.ptr 0 0,.agg (Bl e)] ⟨[(0,.cells (GQ 0 c))],1,[(0,c.diags.length)],1⟩ (.ret (.sc (.string yR))) ⟨[(0,.cells [.sc (.int .i64 c.src.kind),.sc (.string c.src.name),.sc (.string c.src.unit),.sc (.int .i64 c.src.n),.sc (.int .i64 c.src.fr),.sc (.int .i64 c.src.to),.sc (.int .i64 c.src.known),.sc (.int .i64 c.src.tab.den),.sl .lost c.src.tab.ps.length (rows El c.src.tab.ps),.sl .lost c.src.kids.length (Ba c.src.kids),.sc (.int .i64 c.src.att),.sl (.row 0 2) qc_diagsR.length (rows BV qc_diagsR)])],1,[(0,qc_diagsR.length)],1⟩)) {c:Cq} {e:Nd} {yR:ByteArray} {qc_diagsR:(List Dg)} (h:Eb Ch c e=some (yR,qc_diagsR)):Sound P G (.call 33 [.ptr 0 0,.agg (Bl e)] ⟨[(0,.cells (GQ 0 c))],1,[(0,c.diags.length)],1⟩ (.ret (.sc (.string yR))) ⟨[(0,.cells [.sc (.int .i64 c.src.kind),.sc (.string c.src.name),.sc (.string c.src.unit),.sc (.int .i64 c.src.n),.sc (.int .i64 c.src.fr),.sc (.int .i64 c.src.to),.sc (.int .i64 c.src.known),.sc (.int .i64 c.src.tab.den),.sl .lost c.src.tab.ps.length (rows El c.src.tab.ps),.sl .lost c.src.kids.length (Ba c.src.kids),.sc (.int .i64 c.src.att),.sl (.row 0 2) qc_diagsR.length (rows BV qc_diagsR)])],1,[(0,qc_diagsR.length)],1⟩):=by
 unfold Eb at h
 refine DI Hd.mixed (AB Tryz.func33 b33 ?_)
 revert h
 refine Fb (fun Q v=>Je P G Tryz.f33 1 ⟨[(0,.cells (GQ 0 c))],1,[(0,c.diags.length)],1⟩ Q (.sc (.string v.1)) ⟨[(0,.cells [.sc (.int .i64 c.src.kind),.sc (.string c.src.name),.sc (.string c.src.unit),.sc (.int .i64 c.src.n),.sc (.int .i64 c.src.fr),.sc (.int .i64 c.src.to),.sc (.int .i64 c.src.known),.sc (.int .i64 c.src.tab.den),.sl .lost c.src.tab.ps.length (rows El c.src.tab.ps),.sl .lost c.src.kids.length (Ba c.src.kids),.sc (.int .i64 c.src.att),.sl (.row 0 2) v.2.length (rows BV v.2)])],1,[(0,v.2.length)],1⟩) (fun i0 ((l5,whole6,w0_11):((List ByteArray)×Bool×(List Dg))) (j0:List Value)=>fr 51 [(0,.ptr 0 0),(3,.ptr 1 0),(5,.sl (.row 1 1) l5.length (rows IW l5)),(6,.sc (.bool whole6)),(7,.sc (.int .i64 ((i0:Nat):Int)))] [15,29,30,32,33,34,35,44] j0) (fun ((l5,whole6,w0_11):((List ByteArray)×Bool×(List Dg)))=>⟨[(1,.cells (Bl e)),(0,.cells [.sc (.int .i64 c.src.kind),.sc (.string c.src.name),.sc (.string c.src.unit),.sc (.int .i64 c.src.n),.sc (.int .i64 c.src.fr),.sc (.int .i64 c.src.to),.sc (.int .i64 c.src.known),.sc (.int .i64 c.src.tab.den),.sl .lost c.src.tab.ps.length (rows El c.src.tab.ps),.sl .lost c.src.kids.length (Ba c.src.kids),.sc (.int .i64 c.src.att),.sl (.row 0 2) w0_11.length (rows BV w0_11)])],2,[(1,l5.length),(0,w0_11.length)],2⟩) (fun ((l5,whole6,w0_11):((List ByteArray)×Bool×(List Dg))) (jx:List Value)=>fr 51 [(0,.ptr 0 0),(3,.ptr 1 0),(5,.sl (.row 1 1) l5.length (rows IW l5)),(6,.sc (.bool whole6))] [15,29,30,32,33,34,35,44] jx) (fun ((l5,whole6,w0_11):((List ByteArray)×Bool×(List Dg)))=>⟨[(1,.cells (Bl e)),(0,.cells [.sc (.int .i64 c.src.kind),.sc (.string c.src.name),.sc (.string c.src.unit),.sc (.int .i64 c.src.n),.sc (.int .i64 c.src.fr),.sc (.int .i64 c.src.to),.sc (.int .i64 c.src.known),.sc (.int .i64 c.src.tab.den),.sl .lost c.src.tab.ps.length (rows El c.src.tab.ps),.sl .lost c.src.kids.length (Ba c.src.kids),.sc (.int .i64 c.src.att),.sl (.row 0 2) w0_11.length (rows BV w0_11)])],2,[(1,l5.length),(0,w0_11.length)],2⟩) [] (EO [.t 5 1] 0 (sb uU 244) [.code (sb uU 31)] (Ab 300 []) (by kernel_rfl)) ?_ ?_ ?_ (fun v h=>by cases h;exact .outer .body)
 rintro i0 ⟨l5,whole6,w0_11⟩ j0 hge hq
 exact CT (Ab 300 [pb (Kz hge)]) (by kernel_rfl) (hq (js 8 j0 [(0,.bool false)]))
 rintro i0 e0 ⟨l5,whole6,w0_11⟩ j0 r he0 hi0 mi0 k
 show Cy Ch c i0 e0 l5 whole6 w0_11=some r→_
 unfold Cy
 refine Ah ?_
 rintro ⟨y2a,y2b⟩ hy2
 dsimp only
 refine Z0 fun hl3=>?_
 let o1:List (PC P G):=[pb (GD hi0),Ct (BD .lost he0),Ay (Fx (KF hy2) 0 0)]
 refine Ae (fun hv=>?_) fun hv=>?_
 subst hv
 refine Ae (fun hb1=>?_) fun hb1=>?_
 rintro ⟨⟩
 exact D6 (Ab 300 (o1++[aB (Y9 (.row 1 1) l5 [y2a] (o:=.full) (n:=1) (ns:=[.sc (.string y2a)]) (Bc.wn [y2a] (.r .nil)) rfl rfl (by simp) (by simpa using hl3)),pn hb1,pi mi0])) (by kernel_rfl) (k [.bool true,.bool true,.bool true,.bool false,.bool false,(jv j0 5),(jv j0 6),(jv j0 7)])
 rintro ⟨⟩
 exact D6 (Ab 300 (o1++[aB (Y9 (.row 1 1) l5 [y2a] (o:=.full) (n:=1) (ns:=[.sc (.string y2a)]) (Bc.wn [y2a] (.r .nil)) rfl rfl (by simp) (by simpa using hl3)),pn hb1,pi mi0])) (by kernel_rfl) (k [.bool true,.bool true,.bool true,.bool true,.bool true,(jv j0 5),(jv j0 6),(jv j0 7)])
 subst hv
 rintro ⟨⟩
 exact D6 (Ab 300 (o1++[aB (Y9 (.row 1 1) l5 [y2a] (o:=.full) (n:=1) (ns:=[.sc (.string y2a)]) (Bc.wn [y2a] (.r .nil)) rfl rfl (by simp) (by simpa using hl3)),pi mi0])) (by kernel_rfl) (k [.bool true,.bool false,.bool false,undef,.bool false,(jv j0 5),(jv j0 6),(jv j0 7)])
 rintro ⟨l5_4,whole6_4,w0_11_4⟩ jx_4
 dsimp only
 refine Ae (fun hv=>?_) fun hv=>?_
 subst hv
 refine Ah ?_
 rintro ⟨y5a,y5b⟩ hy5
 dsimp only
 let o2:List (PC P G):=[dQ (args:=[.ptr 0 0,.agg (Bl e),.sl (.row 1 1) l5_4.length (rows IW l5_4)]) (.r (.r (.s rfl .nil))) (K2 (J0 hy5) 0 0)]
 refine Ae (fun hb2=>?_) fun hb2=>?_
 refine Ah ?_
 rintro ⟨y6a,y6b⟩ hy6
 dsimp only
 intro h
 have hE:=Option.some.inj h
 obtain ⟨hE0,hF0⟩:=Prod.mk.inj hE
 subst hE0 hF0
 exact An Hd.Aa _ _ [] [bu [.sc (.int .i64 c.src.kind),.sc (.string c.src.name),.sc (.string c.src.unit),.sc (.int .i64 c.src.n),.sc (.int .i64 c.src.fr),.sc (.int .i64 c.src.to),.sc (.int .i64 c.src.known),.sc (.int .i64 c.src.tab.den),.sl .lost c.src.tab.ps.length (rows El c.src.tab.ps),.sl .lost c.src.kids.length (Ba c.src.kids),.sc (.int .i64 c.src.att),.sl (.row 0 2) y6b.length (rows BV y6b)] (A5 rfl (A5 rfl (A5 rfl (A5 rfl (A5 rfl (A5 rfl (A5 rfl (A5 rfl (A5 (Am _ _ (CS.B9 c.src.tab.ps)) (A5 (Am _ _ (Al.B9 c.src.kids)) (A5 rfl (A5 (IQ rfl (AJ _ _ (AF.A2 y6b))) rfl))))))))))))] (Cc 300 (o2++[pb hb2,Ay (Bd (A7 hy6) 0 0)])) (by kernel_rfl) .body
 intro h
 have hE:=Option.some.inj h
 obtain ⟨hE0,hF0⟩:=Prod.mk.inj hE
 subst hE0 hF0
 exact An Hd.Aa _ _ [] [bu [.sc (.int .i64 c.src.kind),.sc (.string c.src.name),.sc (.string c.src.unit),.sc (.int .i64 c.src.n),.sc (.int .i64 c.src.fr),.sc (.int .i64 c.src.to),.sc (.int .i64 c.src.known),.sc (.int .i64 c.src.tab.den),.sl .lost c.src.tab.ps.length (rows El c.src.tab.ps),.sl .lost c.src.kids.length (Ba c.src.kids),.sc (.int .i64 c.src.att),.sl (.row 0 2) w0_11_4.length (rows BV w0_11_4)] (A5 rfl (A5 rfl (A5 rfl (A5 rfl (A5 rfl (A5 rfl (A5 rfl (A5 rfl (A5 (Am _ _ (CS.B9 c.src.tab.ps)) (A5 (Am _ _ (Al.B9 c.src.kids)) (A5 rfl (A5 (IQ rfl (AJ _ _ (AF.A2 w0_11_4))) rfl))))))))))))] (Cc 300 (o2++[pb hb2])) (by kernel_rfl) .body
 subst hv
 intro h
 have hE:=Option.some.inj h
 obtain ⟨hE0,hF0⟩:=Prod.mk.inj hE
 subst hE0 hF0
 exact An Hd.Aa _ _ [] [bu [.sc (.int .i64 c.src.kind),.sc (.string c.src.name),.sc (.string c.src.unit),.sc (.int .i64 c.src.n),.sc (.int .i64 c.src.fr),.sc (.int .i64 c.src.to),.sc (.int .i64 c.src.known),.sc (.int .i64 c.src.tab.den),.sl .lost c.src.tab.ps.length (rows El c.src.tab.ps),.sl .lost c.src.kids.length (Ba c.src.kids),.sc (.int .i64 c.src.att),.sl (.row 0 2) w0_11_4.length (rows BV w0_11_4)] (A5 rfl (A5 rfl (A5 rfl (A5 rfl (A5 rfl (A5 rfl (A5 rfl (A5 rfl (A5 (Am _ _ (CS.B9 c.src.tab.ps)) (A5 (Am _ _ (Al.B9 c.src.kids)) (A5 rfl (A5 (IQ rfl (AJ _ _ (AF.A2 w0_11_4))) rfl))))))))))))] (Cc 300 []) (by kernel_rfl) .body
noncomputable def BC:Nat→Cq→Nd→Option (ByteArray×(List Dg))
 | 0,_,_=>none
 | qn+1,c,e=>Eb (BC qn) c e
theorem Ks:∀ qn:Nat,∀ {c:Cq} {e:Nd} {yR:ByteArray} {qc_diagsR:(List Dg)},BC qn c e=some (yR,qc_diagsR)→Sound P G (.call 33 [.ptr 0 0,.agg (Bl e)] ⟨[(0,.cells (GQ 0 c))],1,[(0,c.diags.length)],1⟩ (.ret (.sc (.string yR))) ⟨[(0,.cells [.sc (.int .i64 c.src.kind),.sc (.string c.src.name),.sc (.string c.src.unit),.sc (.int .i64 c.src.n),.sc (.int .i64 c.src.fr),.sc (.int .i64 c.src.to),.sc (.int .i64 c.src.known),.sc (.int .i64 c.src.tab.den),.sl .lost c.src.tab.ps.length (rows El c.src.tab.ps),.sl .lost c.src.kids.length (Ba c.src.kids),.sc (.int .i64 c.src.att),.sl (.row 0 2) qc_diagsR.length (rows BV qc_diagsR)])],1,[(0,qc_diagsR.length)],1⟩):=by
 intro qn
 induction qn with
 | zero=>exact (fun h=>by simp only [BC] at h;cases h)
 | succ qn ih=>exact (fun h=>JT (BC qn) ih (by rw [BC] at h;exact h))
noncomputable def Ec (c:Cq) (e:Nd):Option (ByteArray×(List Dg)):=Xv (fun qn=>BC qn c e)
theorem Hc {c:Cq} {e:Nd} {yR:ByteArray} {qc_diagsR:(List Dg)} (h:Ec c e=some (yR,qc_diagsR)):Sound P G (.call 33 [.ptr 0 0,.agg (Bl e)] ⟨[(0,.cells (GQ 0 c))],1,[(0,c.diags.length)],1⟩ (.ret (.sc (.string yR))) ⟨[(0,.cells [.sc (.int .i64 c.src.kind),.sc (.string c.src.name),.sc (.string c.src.unit),.sc (.int .i64 c.src.n),.sc (.int .i64 c.src.fr),.sc (.int .i64 c.src.to),.sc (.int .i64 c.src.known),.sc (.int .i64 c.src.tab.den),.sl .lost c.src.tab.ps.length (rows El c.src.tab.ps),.sl .lost c.src.kids.length (Ba c.src.kids),.sc (.int .i64 c.src.att),.sl (.row 0 2) qc_diagsR.length (rows BV qc_diagsR)])],1,[(0,qc_diagsR.length)],1⟩):=by
 obtain ⟨qn,h⟩:=UE h
 exact (Ks qn) h
noncomputable def B14:Code:=A3 Tryz.f14
theorem b14:Tryz.f14.body=some B14:=by kernel_rfl
noncomputable def Gp  (source:Nd) (e:Nd):Option (ByteArray×(List Dg)):=(Ey source).bind fun y1=>cond y1 ((DS e).bind fun y2=>cond y2 ((Ec (⟨source,[]⟩:Cq) e).bind fun (y3a,y3b)=>some (y3a,y3b)) (some (ByteArray.empty,[(⟨1,e.att⟩:Dg)]))) (some (ByteArray.empty,[(⟨1,e.att⟩:Dg)]))
theorem Nj   {source:Nd} {e:Nd} {yR:(ByteArray×(List Dg))} (h:Gp  source e=some yR):Pure P G 14 [.agg (Bl source),.agg (Bl e)] (.A9 [.sc (.string yR.1),.sl .lost yR.2.length (rows BV yR.2)]):=by
 unfold Gp at h
 refine BB Hd.mixed Hd.Aa (AB Tryz.func14 b14 ?_) (A2 (Al.GB source) (A2 (Al.GB e) rfl)) (A2 rfl (A2 (AF.B9 yR.2) rfl))
 revert h
 refine Ah fun y1 hy1=>?_
 refine Ae (fun hv=>?_) fun hv=>?_
 subst hv
 refine Ah fun y2 hy2=>?_
 refine Ae (fun hv=>?_) fun hv=>?_
 subst hv
 refine Ah ?_
 rintro ⟨y3a,y3b⟩ hy3
 dsimp only
 intro h
 have hE:=Option.some.inj h
 subst hE
 exact AG (v:=.A9 [.sc (.string y3a),.sl (.row 0 2) y3b.length (rows BV y3b)]) _ _ (Ab 300 [Ak (D7 hy1),Ak (Ha hy2),uL [],uL [.b 2 11 2],Ay (Fx (Hc hy3) 2 0)]) (by kernel_rfl) .body (.wn (.u (.r (.s rfl .nil)) .nil) (A2 rfl (A2 (AF.B9 y3b) rfl)))
 subst hv
 intro h
 have hE:=Option.some.inj h
 subst hE
 exact AG (v:=.A9 [.sc (.string ByteArray.empty),.sl .full 1 [.sc (.int .i64 1),.sc (.int .i64 e.att)]]) _ _ (Ab 300 [Ak (D7 hy1),Ak (Ha hy2)]) (by kernel_rfl) .body (.wn (.u (.r (.d (.r (.r .nil)) (AF.eq [(⟨1,e.att⟩:Dg)]).symm .nil)) .nil) (A2 rfl (A2 (AF.B9 [(⟨1,e.att⟩:Dg)]) rfl)))
 subst hv
 intro h
 have hE:=Option.some.inj h
 subst hE
 exact AG (v:=.A9 [.sc (.string ByteArray.empty),.sl .full 1 [.sc (.int .i64 1),.sc (.int .i64 e.att)]]) _ _ (Ab 300 [Ak (D7 hy1)]) (by kernel_rfl) .body (.wn (.u (.r (.d (.r (.r .nil)) (AF.eq [(⟨1,e.att⟩:Dg)]).symm .nil)) .nil) (A2 rfl (A2 (AF.B9 [(⟨1,e.att⟩:Dg)]) rfl)))
noncomputable def vI:Code:=A3 Tryz.f15
theorem b15:Tryz.f15.body=some vI:=by kernel_rfl
noncomputable def ET  (b:(List Dg)) (i0:Nat) (e0:Dg) :Option (Lp Unit Unit Bool):=(b[i0]?).bind fun x1=>cond (NB e0 x1) (some (.nx ())) (some (.rt false))
noncomputable def Ds  (a:(List Dg)) (b:(List Dg)):Option Bool:=cond (Bq ((a.length:Nat):Int) ((b.length:Nat):Int)) ((It a.length (AL (fun i y x=>ET  b i y ) (fun x=>()) (a.drop 0) 0 ())).bind (Ii (fun (_:Unit)=>some true) (fun v=>some v))) (some false)
theorem Fp   {a:(List Dg)} {b:(List Dg)} {yR:Bool} (h:Ds  a b=some yR):Pure P G 15 [.sl .lost a.length (rows BV a),.sl .lost b.length (rows BV b)] (.sc (.bool yR)):=by
 unfold Ds at h
 refine BB Hd.mixed Hd.Aa (AB Tryz.func15 b15 ?_) (A2 (AF.B9 a) (A2 (AF.B9 b) rfl)) rfl
 revert h
 refine Ae (fun hb1=>?_) fun hb1=>?_
 refine Fb (fun Q v=>Fq P Tryz.f15 0 Q (.sc (.bool v))) (fun i0 (_:Unit) (j0:List Value)=>fr 26 [(0,.sl .lost a.length (rows BV a)),(1,.sl .lost b.length (rows BV b)),(5,.sc (.int .i64 ((i0:Nat):Int)))] [4,10,14,25] j0) (fun (_:Unit)=>⟨[],0,[],0⟩) (fun (_:Unit) (jx:List Value)=>fr 26 [] [4,10,14,25] jx) (fun (_:Unit)=>⟨[],0,[],0⟩) [.bool false,.bool false] (EO [] 0 (sb vI 116) [.code (sb vI 15)] (Ab 300 [pn hb1]) (by kernel_rfl)) ?_ ?_ ?_ (fun v h=>by cases h;exact .outer .body)
 rintro i0 ⟨⟩ j0 hge hq
 exact CT (Ab 300 [pb (Kz hge)]) (by kernel_rfl) (hq (js 4 j0 [(2,.bool false)]))
 rintro i0 e0 ⟨⟩ j0 r he0 hi0 mi0 k
 show ET  b i0 e0 =some r→_
 unfold ET
 refine Ah fun x1 hx1=>?_
 refine Ae (fun hb2=>?_) fun hb2=>?_
 rintro ⟨⟩
 exact D6 (Ab 300 [pb (GD hi0),Ct (aS .lost he0),Ct (aS .lost hx1),HY (gW hb2 (.tmp 20) (.tmp 24)),pi mi0]) (by kernel_rfl) (k (js 4 j0 [(2,.bool true),(3,.bool false)]))
 rintro ⟨⟩
 exact AG _ _ (Ab 300 [pb (GD hi0),Ct (aS .lost he0),Ct (aS .lost hx1),HY (gW hb2 (.tmp 20) (.tmp 24))]) (by kernel_rfl) (.GS k) .sc
 rintro ⟨⟩ jx_2
 intro h
 have hE:=Option.some.inj h
 subst hE
 exact AG _ _ (Cc 300 []) (by kernel_rfl) .body .sc
 rintro ⟨⟩
 exact rS (Ab 300 [pn hb1]) (by kernel_rfl)
noncomputable def zQ:Code:=A3 Tryz.f34
theorem b34:Tryz.f34.body=some zQ:=by kernel_rfl
noncomputable def Bw   (i0:Nat) (e0:Nd) (w5_m:(Mm ByteArray Bool)) (w2_m:(Mm Int Int)) (w0_0:(List Dg)) (w4_m:(Mm ByteArray Bool)):Option (Lp ((Mm ByteArray Bool)×(Mm Int Int)×(List Dg)×(Mm ByteArray Bool)) ((Mm ByteArray Bool)×(Mm Int Int)×(List Dg)×(Mm ByteArray Bool)) (Unit×(List Dg))):=cond (Bq e0.kind 4) (some (.nx (w5_m,w2_m,w0_0,w4_m))) (cond (Bq e0.kind 3) (cond ((w5_m.get e0.name).getD false) ((Ao 5 e0.att w0_0).bind fun (y1a,y1b)=>some (.nx ((w5_m.set e0.name true),(w2_m.set e0.kind (BH ((w2_m.get e0.kind).getD 0) 1)),y1b,w4_m))) (cond (F4 32 (((w2_m.set e0.kind (BH ((w2_m.get e0.kind).getD 0) 1)).get e0.kind).getD 0)) ((Ao 2 e0.att w0_0).bind fun (y2a,y2b)=>some (.nx ((w5_m.set e0.name true),(w2_m.set e0.kind (BH ((w2_m.get e0.kind).getD 0) 1)),y2b,w4_m))) (cond (BA e0.unit.data.toList AO.data.toList) ((Ao 11 e0.att w0_0).bind fun (y3a,y3b)=>some (.nx ((w5_m.set e0.name true),(w2_m.set e0.kind (BH ((w2_m.get e0.kind).getD 0) 1)),y3b,w4_m))) (cond (Bq e0.n 4) (some (.nx ((w5_m.set e0.name true),(w2_m.set e0.kind (BH ((w2_m.get e0.kind).getD 0) 1)),w0_0,w4_m))) ((Ek e0.unit).bind fun y4=>cond y4 (some (.nx ((w5_m.set e0.name true),(w2_m.set e0.kind (BH ((w2_m.get e0.kind).getD 0) 1)),w0_0,w4_m))) ((Ao 11 e0.att w0_0).bind fun (y5a,y5b)=>some (.nx ((w5_m.set e0.name true),(w2_m.set e0.kind (BH ((w2_m.get e0.kind).getD 0) 1)),y5b,w4_m)))))))) (cond (Bq e0.kind 2) (cond ((w4_m.get e0.name).getD false) ((Ao 5 e0.att w0_0).bind fun (y6a,y6b)=>some (.nx (w5_m,(w2_m.set e0.kind (BH ((w2_m.get e0.kind).getD 0) 1)),y6b,(w4_m.set e0.name true)))) (cond (F4 32 (((w2_m.set e0.kind (BH ((w2_m.get e0.kind).getD 0) 1)).get e0.kind).getD 0)) ((Ao 2 e0.att w0_0).bind fun (y7a,y7b)=>some (.nx (w5_m,(w2_m.set e0.kind (BH ((w2_m.get e0.kind).getD 0) 1)),y7b,(w4_m.set e0.name true)))) (some (.nx (w5_m,(w2_m.set e0.kind (BH ((w2_m.get e0.kind).getD 0) 1)),w0_0,(w4_m.set e0.name true)))))) (none)))
noncomputable def B7  (source:Nd) (report:(List Dg)):Option (Unit×(List Dg)):=(It source.kids.length (AL (fun i y x=>Bw   i y x.1 x.2.1 x.2.2.1 x.2.2.2) (fun x=>(x.1,x.2.1,x.2.2.1,x.2.2.2)) (source.kids.drop 0) 0 ((Mm.nil:Mm ByteArray Bool),(Mm.nil:Mm Int Int),report,(Mm.nil:Mm ByteArray Bool)))).bind (Ii (fun ((w5_m_8,w2_m_8,w0_0_8,w4_m_8):((Mm ByteArray Bool)×(Mm Int Int)×(List Dg)×(Mm ByteArray Bool)))=>some ((),w0_0_8)) (fun v=>some v))
theorem IM {source:Nd} {report:(List Dg)} {qreportR:(List Dg)} (hS:Sound P G (.call 34 [.agg (Bl source),.fn (.func 54) [] [.ptr 0 0]] ⟨[(0,.cells [.sl (.row 0 2) report.length (rows BV report)])],1,[(0,report.length)],1⟩ (.ret (.A9 [])) ⟨[(0,.cells [.sl (.row 0 2) qreportR.length (rows BV qreportR)])],1,[(0,qreportR.length)],1⟩)) (u0 v0:Nat) (hnb:[u0].Nodup:=by decide) (hnt:([v0]:List Nat).Nodup:=by decide):Cd.ok P G (.callU 34 [.agg (Bl source),.fn (.func 54) [] [.ptr u0 0]] (.ret (.A9 [])) [(u0,.cells [.sl (.row v0 2) report.length (rows BV report)])] [(v0,report.length)] [(u0,.cells [.sl (.row v0 2) qreportR.length (rows BV qreportR)])] [(v0,qreportR.length)]) :=
 DE (M:=[.cells [.sl (.row 0 2) report.length (rows BV report)]]) (M2:=[.cells [.sl (.row 0 2) qreportR.length (rows BV qreportR)]]) (T:=[report.length]) (T2:=[qreportR.length]) (k:=1) (j:=1) Hd.Aa _ _ _ _ hS rfl rfl rfl rfl rfl hnb hnt rfl rfl (.cons (.cells (.cons (.row (by decide) (AF.A2 report)) .nil)) .nil) (.cons (.cells (.cons (.row (by decide) (AF.A2 qreportR)) .nil)) .nil) (.cons (.pl (Al.GB source)) (.cons (.fn (.pl rfl) (.cons (.ptr (by decide)) .nil)) .nil)) (.pl rfl) (fun e he=>by simp only [List.mem_singleton] at he;subst he;exact (.arg (.there (.here (.fn2 (.here .ptr))))))
theorem Hj   {source:Nd} {report:(List Dg)} {yR:Unit} {qreportR:(List Dg)} (h:B7  source report=some (yR,qreportR)):Sound P G (.call 34 [.agg (Bl source),.fn (.func 54) [] [.ptr 0 0]] ⟨[(0,.cells [.sl (.row 0 2) report.length (rows BV report)])],1,[(0,report.length)],1⟩ (.ret (.A9 [])) ⟨[(0,.cells [.sl (.row 0 2) qreportR.length (rows BV qreportR)])],1,[(0,qreportR.length)],1⟩):=by
 unfold B7 at h
 refine DI Hd.mixed (AB Tryz.func34 b34 ?_)
 revert h
 refine Fb (fun Q v=>Je P G Tryz.f34 1 ⟨[(0,.cells [.sl (.row 0 2) report.length (rows BV report)])],1,[(0,report.length)],1⟩ Q (.A9 []) ⟨[(0,.cells [.sl (.row 0 2) v.2.length (rows BV v.2)])],1,[(0,v.2.length)],1⟩) (fun i0 ((w5_m,w2_m,w0_0,w4_m):((Mm ByteArray Bool)×(Mm Int Int)×(List Dg)×(Mm ByteArray Bool))) (j0:List Value)=>fr 83 [(1,.fn (.func 54) [] [.ptr 0 0]),(4,.mp 2),(5,.mp 3),(15,.sl .lost source.kids.length (Ba source.kids)),(16,.sc (.int .i64 ((source.kids.length:Nat):Int))),(17,.sc (.int .i64 ((i0:Nat):Int)))] [8,18,23,31,32,39,44,49,54,55,56,59,60,63,64,67,68,69,70,71] j0) (fun ((w5_m,w2_m,w0_0,w4_m):((Mm ByteArray Bool)×(Mm Int Int)×(List Dg)×(Mm ByteArray Bool)))=>⟨[(5,(RM w5_m)),(4,(RM w4_m)),(3,(.map [(.int .i64 2,.mp 4,0),(.int .i64 3,.mp 5,1)] 2)),(2,(Va w2_m)),(1,.cells (Bl source)),(0,.cells [.sl (.row 0 2) w0_0.length (rows BV w0_0)])],6,[(0,w0_0.length)],1⟩) (fun ((w5_m,w2_m,w0_0,w4_m):((Mm ByteArray Bool)×(Mm Int Int)×(List Dg)×(Mm ByteArray Bool))) (jx:List Value)=>fr 83 [] [8,18,23,31,32,39,44,49,54,55,56,59,60,63,64,67,68,69,70,71] jx) (fun ((w5_m,w2_m,w0_0,w4_m):((Mm ByteArray Bool)×(Mm Int Int)×(List Dg)×(Mm ByteArray Bool)))=>⟨[(5,(RM w5_m)),(4,(RM w4_m)),(3,(.map [(.int .i64 2,.mp 4,0),(.int .i64 3,.mp 5,1)] 2)),(2,(Va w2_m)),(1,.cells (Bl source)),(0,.cells [.sl (.row 0 2) w0_0.length (rows BV w0_0)])],6,[(0,w0_0.length)],1⟩) [] (EO [] 0 (sb zQ 124) [] (Ab 300 []) (by kernel_rfl)) ?_ ?_ ?_ (fun v h=>by cases h;exact .outer .body)
 rintro i0 ⟨w5_m,w2_m,w0_0,w4_m⟩ j0 hge hq
 exact CT (Ab 300 [pb (Kz hge)]) (by kernel_rfl) (hq (js 20 j0 [(1,.bool false)]))
 rintro i0 e0 ⟨w5_m,w2_m,w0_0,w4_m⟩ j0 r he0 hi0 mi0 k
 show Bw   i0 e0 w5_m w2_m w0_0 w4_m=some r→_
 unfold Bw
 let o1:List (PC P G):=[pb (GD hi0),Ct (BD .lost he0)]
 refine Ae (fun hb1=>?_) fun hb1=>?_
 rintro ⟨⟩
 exact BJ Hd.Aa [fq (Al.B9 source.kids)] [Gx w5_m,Gx w4_m,bw (.map [(.int .i64 2,.mp 4,0),(.int .i64 3,.mp 5,1)] 2) (.map [(.int .i64 2,.mp 4,0),(.int .i64 3,.mp 5,1)] 2) (.under rfl),LP w2_m,bp (Al.pl source),br AF 0 2 w0_0] (Ab 300 (o1++[pb hb1,pi mi0])) (by kernel_rfl) (k (js 20 j0 [(1,.bool true),(2,.bool true)]))
 let o2:List (PC P G):=o1++[pb hb1,KN (XG w2_m e0.kind),pk,Xb (sB w2_m e0.kind (BH ((w2_m.get e0.kind).getD 0) 1))]
 refine Ae (fun hb2=>?_) fun hb2=>?_
 let o3:List (PC P G):=o2++[pb hb2,KN (b:=(.map [(.int .i64 2,.mp 4,0),(.int .i64 3,.mp 5,1)] 2)) (IT (z:=e0.kind) 3 (GV hb2) rfl)]
 refine Ae (fun hb3=>?_) fun hb3=>?_
 refine Ah ?_
 rintro ⟨y1a,y1b⟩ hy1
 dsimp only
 rintro ⟨⟩
 exact BJ Hd.Aa [fq (Al.B9 source.kids)] [Gx (w5_m.set e0.name true),Gx w4_m,bw (.map [(.int .i64 2,.mp 4,0),(.int .i64 3,.mp 5,1)] 2) (.map [(.int .i64 2,.mp 4,0),(.int .i64 3,.mp 5,1)] 2) (.under rfl),LP (w2_m.set e0.kind (BH ((w2_m.get e0.kind).getD 0) 1)),bp (Al.pl source),br AF 0 2 y1b] (Ab 300 (o3++[KN (RH w5_m e0.name hb3),Ay (Ax (Ap hy1) 0 0),KN (b:=(.map [(.int .i64 2,.mp 4,0),(.int .i64 3,.mp 5,1)] 2)) (IT (z:=e0.kind) 3 (GV hb2) rfl),Xb (MV w5_m e0.name true),pi mi0])) (by kernel_rfl) (k (js 20 j0 [(0,.bool true),(1,.bool true),(2,.bool false),(3,.bool true),(4,.bool true),(5,.bool true)]))
 let o4:List (PC P G):=o3++[KN (RH w5_m e0.name hb3),KN (XG (w2_m.set e0.kind (BH ((w2_m.get e0.kind).getD 0) 1)) e0.kind)]
 refine Ae (fun hb4=>?_) fun hb4=>?_
 refine Ah ?_
 rintro ⟨y2a,y2b⟩ hy2
 dsimp only
 rintro ⟨⟩
 exact BJ Hd.Aa [fq (Al.B9 source.kids)] [Gx (w5_m.set e0.name true),Gx w4_m,bw (.map [(.int .i64 2,.mp 4,0),(.int .i64 3,.mp 5,1)] 2) (.map [(.int .i64 2,.mp 4,0),(.int .i64 3,.mp 5,1)] 2) (.under rfl),LP (w2_m.set e0.kind (BH ((w2_m.get e0.kind).getD 0) 1)),bp (Al.pl source),br AF 0 2 y2b] (Ab 300 (o4++[pb hb4,Ay (Ax (Ap hy2) 0 0),KN (b:=(.map [(.int .i64 2,.mp 4,0),(.int .i64 3,.mp 5,1)] 2)) (IT (z:=e0.kind) 3 (GV hb2) rfl),Xb (MV w5_m e0.name true),pi mi0])) (by kernel_rfl) (k (js 20 j0 [(0,.bool true),(1,.bool true),(2,.bool false),(3,.bool true),(4,.bool false),(5,.bool false),(6,.bool true),(7,.bool true)]))
 refine Ae (fun hb5=>?_) fun hb5=>?_
 refine Ah ?_
 rintro ⟨y3a,y3b⟩ hy3
 dsimp only
 rintro ⟨⟩
 exact BJ Hd.Aa [fq (Al.B9 source.kids)] [Gx (w5_m.set e0.name true),Gx w4_m,bw (.map [(.int .i64 2,.mp 4,0),(.int .i64 3,.mp 5,1)] 2) (.map [(.int .i64 2,.mp 4,0),(.int .i64 3,.mp 5,1)] 2) (.under rfl),LP (w2_m.set e0.kind (BH ((w2_m.get e0.kind).getD 0) 1)),bp (Al.pl source),br AF 0 2 y3b] (Ab 300 (o4++[pb hb4,pb hb5,Ay (Ax (Ap hy3) 0 0),KN (b:=(.map [(.int .i64 2,.mp 4,0),(.int .i64 3,.mp 5,1)] 2)) (IT (z:=e0.kind) 3 (GV hb2) rfl),Xb (MV w5_m e0.name true),pi mi0])) (by kernel_rfl) (k [.bool true,.bool true,.bool false,.bool true,.bool false,.bool false,.bool false,.bool false,.bool true,.bool true,.bool true,.bool true,.bool true,undef,undef,undef,undef,undef,.bool true,.bool true])
 refine Ae (fun hb6=>?_) fun hb6=>?_
 rintro ⟨⟩
 exact BJ Hd.Aa [fq (Al.B9 source.kids)] [Gx (w5_m.set e0.name true),Gx w4_m,bw (.map [(.int .i64 2,.mp 4,0),(.int .i64 3,.mp 5,1)] 2) (.map [(.int .i64 2,.mp 4,0),(.int .i64 3,.mp 5,1)] 2) (.under rfl),LP (w2_m.set e0.kind (BH ((w2_m.get e0.kind).getD 0) 1)),bp (Al.pl source),br AF 0 2 w0_0] (Ab 300 (o4++[pb hb4,pb hb5,pn hb6,KN (b:=(.map [(.int .i64 2,.mp 4,0),(.int .i64 3,.mp 5,1)] 2)) (IT (z:=e0.kind) 3 (GV hb2) rfl),Xb (MV w5_m e0.name true),pi mi0])) (by kernel_rfl) (k [.bool true,.bool true,.bool false,.bool true,.bool false,.bool false,.bool false,.bool false,.bool false,.bool true,.bool true,.bool false,.bool false,.bool false,.bool false,undef,undef,.bool false,.bool false,.bool false])
 refine Ah fun y4 hy4=>?_
 refine Ae (fun hv=>?_) fun hv=>?_
 subst hv
 rintro ⟨⟩
 exact BJ Hd.Aa [fq (Al.B9 source.kids)] [Gx (w5_m.set e0.name true),Gx w4_m,bw (.map [(.int .i64 2,.mp 4,0),(.int .i64 3,.mp 5,1)] 2) (.map [(.int .i64 2,.mp 4,0),(.int .i64 3,.mp 5,1)] 2) (.under rfl),LP (w2_m.set e0.kind (BH ((w2_m.get e0.kind).getD 0) 1)),bp (Al.pl source),br AF 0 2 w0_0] (Ab 300 (o4++[pb hb4,pb hb5,pn hb6,Ak (EB hy4),KN (b:=(.map [(.int .i64 2,.mp 4,0),(.int .i64 3,.mp 5,1)] 2)) (IT (z:=e0.kind) 3 (GV hb2) rfl),Xb (MV w5_m e0.name true),pi mi0])) (by kernel_rfl) (k [.bool true,.bool true,.bool false,.bool true,.bool false,.bool false,.bool false,.bool false,.bool false,.bool true,.bool true,.bool false,.bool false,.bool true,.bool true,.bool true,.bool false,.bool false,.bool false,.bool false])
 subst hv
 refine Ah ?_
 rintro ⟨y5a,y5b⟩ hy5
 dsimp only
 rintro ⟨⟩
 exact BJ Hd.Aa [fq (Al.B9 source.kids)] [Gx (w5_m.set e0.name true),Gx w4_m,bw (.map [(.int .i64 2,.mp 4,0),(.int .i64 3,.mp 5,1)] 2) (.map [(.int .i64 2,.mp 4,0),(.int .i64 3,.mp 5,1)] 2) (.under rfl),LP (w2_m.set e0.kind (BH ((w2_m.get e0.kind).getD 0) 1)),bp (Al.pl source),br AF 0 2 y5b] (Ab 300 (o4++[pb hb4,pb hb5,pn hb6,Ak (EB hy4),Ay (Ax (Ap hy5) 0 0),KN (b:=(.map [(.int .i64 2,.mp 4,0),(.int .i64 3,.mp 5,1)] 2)) (IT (z:=e0.kind) 3 (GV hb2) rfl),Xb (MV w5_m e0.name true),pi mi0])) (by kernel_rfl) (k [.bool true,.bool true,.bool false,.bool true,.bool false,.bool false,.bool false,.bool false,.bool true,.bool true,.bool true,.bool false,.bool false,.bool true,.bool true,.bool false,.bool true,.bool true,.bool true,.bool true])
 refine Ae (fun hb7=>?_) fun hb7=>?_
 let o5:List (PC P G):=o2++[pb hb2,KN (b:=(.map [(.int .i64 2,.mp 4,0),(.int .i64 3,.mp 5,1)] 2)) (IT (z:=e0.kind) 2 (GV hb7) rfl)]
 refine Ae (fun hb8=>?_) fun hb8=>?_
 refine Ah ?_
 rintro ⟨y6a,y6b⟩ hy6
 dsimp only
 rintro ⟨⟩
 exact BJ Hd.Aa [fq (Al.B9 source.kids)] [Gx w5_m,Gx (w4_m.set e0.name true),bw (.map [(.int .i64 2,.mp 4,0),(.int .i64 3,.mp 5,1)] 2) (.map [(.int .i64 2,.mp 4,0),(.int .i64 3,.mp 5,1)] 2) (.under rfl),LP (w2_m.set e0.kind (BH ((w2_m.get e0.kind).getD 0) 1)),bp (Al.pl source),br AF 0 2 y6b] (Ab 300 (o5++[KN (RH w4_m e0.name hb8),Ay (Ax (Ap hy6) 0 0),KN (b:=(.map [(.int .i64 2,.mp 4,0),(.int .i64 3,.mp 5,1)] 2)) (IT (z:=e0.kind) 2 (GV hb7) rfl),Xb (MV w4_m e0.name true),pi mi0])) (by kernel_rfl) (k (js 20 j0 [(0,.bool false),(1,.bool true),(2,.bool false),(3,.bool false),(4,.bool true),(5,.bool true)]))
 let o6:List (PC P G):=o5++[KN (RH w4_m e0.name hb8),KN (XG (w2_m.set e0.kind (BH ((w2_m.get e0.kind).getD 0) 1)) e0.kind)]
 refine Ae (fun hb9=>?_) fun hb9=>?_
 refine Ah ?_
 rintro ⟨y7a,y7b⟩ hy7
 dsimp only
 rintro ⟨⟩
 exact BJ Hd.Aa [fq (Al.B9 source.kids)] [Gx w5_m,Gx (w4_m.set e0.name true),bw (.map [(.int .i64 2,.mp 4,0),(.int .i64 3,.mp 5,1)] 2) (.map [(.int .i64 2,.mp 4,0),(.int .i64 3,.mp 5,1)] 2) (.under rfl),LP (w2_m.set e0.kind (BH ((w2_m.get e0.kind).getD 0) 1)),bp (Al.pl source),br AF 0 2 y7b] (Ab 300 (o6++[pb hb9,Ay (Ax (Ap hy7) 0 0),KN (b:=(.map [(.int .i64 2,.mp 4,0),(.int .i64 3,.mp 5,1)] 2)) (IT (z:=e0.kind) 2 (GV hb7) rfl),Xb (MV w4_m e0.name true),pi mi0])) (by kernel_rfl) (k (js 20 j0 [(0,.bool false),(1,.bool true),(2,.bool false),(3,.bool false),(4,.bool false),(5,.bool false),(6,.bool true),(7,.bool true)]))
 rintro ⟨⟩
 exact BJ Hd.Aa [fq (Al.B9 source.kids)] [Gx w5_m,Gx (w4_m.set e0.name true),bw (.map [(.int .i64 2,.mp 4,0),(.int .i64 3,.mp 5,1)] 2) (.map [(.int .i64 2,.mp 4,0),(.int .i64 3,.mp 5,1)] 2) (.under rfl),LP (w2_m.set e0.kind (BH ((w2_m.get e0.kind).getD 0) 1)),bp (Al.pl source),br AF 0 2 w0_0] (Ab 300 (o6++[pb hb9,KN (b:=(.map [(.int .i64 2,.mp 4,0),(.int .i64 3,.mp 5,1)] 2)) (IT (z:=e0.kind) 2 (GV hb7) rfl),Xb (MV w4_m e0.name true),pi mi0])) (by kernel_rfl) (k [.bool false,.bool true,.bool false,.bool false,.bool false,.bool false,.bool false,.bool false,.bool false,.bool false,.bool false,undef,undef,undef,undef,undef,undef,undef,undef,.bool false])
 exact pY
 rintro ⟨w5_m_8,w2_m_8,w0_0_8,w4_m_8⟩ jx_8
 dsimp only
 intro h
 have hE:=Option.some.inj h
 obtain ⟨hE0,hF0⟩:=Prod.mk.inj hE
 subst hE0 hF0
 exact D1 Hd.Aa _ _ [⟨.A9 [],.A9 [],(.plain rfl)⟩] [br AF 0 2 w0_0_8] (Cc 300 []) (by kernel_rfl)
noncomputable def uC:Code:=A3 Tryz.f35
theorem b35:Tryz.f35.body=some uC:=by kernel_rfl
noncomputable def By  (s:Sc) (DG:Nd) (i0:Nat) (e0:Nd) (w3_0:(List Dg)):Option (Lp (List Dg) (List Dg) (Unit×(List Dg))):=cond (Bq e0.n DG.n) ((Ao 101 e0.att w3_0).bind fun (y7a,y7b)=>some (.nx y7b)) (cond ((s.Ai.get e0.n).isSome) (some (.nx w3_0)) ((Ao 91 e0.att w3_0).bind fun (y8a,y8b)=>some (.nx y8b)))
noncomputable def A4  (s:Sc) (DG:Nd) (clause:Nd) (report:(List Dg)):Option (Unit×(List Dg)):=cond (Bq clause.kind 7) ((It clause.kids.length (AL (fun i y x=>By  s DG i y x) (fun x=>x) (clause.kids.drop 0) 0 report)).bind (Ii (fun (w3_0_9:(List Dg))=>some ((),w3_0_9)) (fun v=>some v))) (cond (Bq clause.kind 6) ((clause.kids[0]?).bind fun x1=>(C9 s x1 report).bind fun (y2a,y2b)=>cond (BA y2a.data.toList ByteArray.empty.data.toList) (some ((),y2b)) (cond (BA AO.data.toList ByteArray.empty.data.toList) (some ((),y2b)) (cond (BA y2a.data.toList AO.data.toList) (some ((),y2b)) ((Ao 11 x1.att y2b).bind fun (y3a,y3b)=>some ((),y3b))))) ((clause.kids[0]?).bind fun x4=>(C9 s x4 report).bind fun (y5a,y5b)=>cond (BA y5a.data.toList ByteArray.empty.data.toList) (some ((),y5b)) (cond (BA ((s.lines.get DG.name).getD ByteArray.empty).data.toList ByteArray.empty.data.toList) (some ((),y5b)) (cond (BA y5a.data.toList ((s.lines.get DG.name).getD ByteArray.empty).data.toList) (some ((),y5b)) ((Ao 11 x4.att y5b).bind fun (y6a,y6b)=>some ((),y6b))))))
theorem B1 {s:Sc} {DG:Nd} {clause:Nd} {report:(List Dg)} {qreportR:(List Dg)} (hS:Sound P G (.call 35 [.agg [.mp 0,.mp 1,.mp 2],.agg (Bl DG),.agg (Bl clause),.fn (.func 54) [] [.ptr 3 0]] ⟨[(3,.cells [.sl (.row 0 2) report.length (rows BV report)]),(2,(C0 s.Ai)),(1,(Bh s.lines)),(0,(Bh s.facts))],4,[(0,report.length)],1⟩ (.ret (.A9 [])) ⟨[(3,.cells [.sl (.row 0 2) qreportR.length (rows BV qreportR)]),(2,(C0 s.Ai)),(1,(Bh s.lines)),(0,(Bh s.facts))],4,[(0,qreportR.length)],1⟩)) (u0 u1 u2 u3 v0:Nat) (hnb:[u0,u1,u2,u3].Nodup:=by decide) (hnt:([v0]:List Nat).Nodup:=by decide):Cd.ok P G (.callU 35 [.agg [.mp u0,.mp u1,.mp u2],.agg (Bl DG),.agg (Bl clause),.fn (.func 54) [] [.ptr u3 0]] (.ret (.A9 [])) [(u0,(Bh s.facts)),(u1,(Bh s.lines)),(u2,(C0 s.Ai)),(u3,.cells [.sl (.row v0 2) report.length (rows BV report)])] [(v0,report.length)] [(u0,(Bh s.facts)),(u1,(Bh s.lines)),(u2,(C0 s.Ai)),(u3,.cells [.sl (.row v0 2) qreportR.length (rows BV qreportR)])] [(v0,qreportR.length)]) :=
 DE (M:=[(Bh s.facts),(Bh s.lines),(C0 s.Ai),.cells [.sl (.row 0 2) report.length (rows BV report)]]) (M2:=[(Bh s.facts),(Bh s.lines),(C0 s.Ai),.cells [.sl (.row 0 2) qreportR.length (rows BV qreportR)]]) (T:=[report.length]) (T2:=[qreportR.length]) (k:=4) (j:=1) Hd.Aa _ _ _ _ hS rfl rfl rfl rfl rfl hnb hnt rfl rfl (.cons (I7 (fun _=>rfl)) (.cons (I7 (fun _=>rfl)) (.cons (I7 (fun _=>rfl)) (.cons (.cells (.cons (.row (by decide) (AF.A2 report)) .nil)) .nil)))) (.cons (I7 (fun _=>rfl)) (.cons (I7 (fun _=>rfl)) (.cons (I7 (fun _=>rfl)) (.cons (.cells (.cons (.row (by decide) (AF.A2 qreportR)) .nil)) .nil)))) (.cons (.agg (.cons (.mp (by decide)) (.cons (.mp (by decide)) (.cons (.mp (by decide)) .nil)))) (.cons (.pl (Al.GB DG)) (.cons (.pl (Al.GB clause)) (.cons (.fn (.pl rfl) (.cons (.ptr (by decide)) .nil)) .nil)))) (.pl rfl) (by
   intro e he
   simp only [List.mem_cons,List.not_mem_nil,or_false] at he
   rcases he with rfl | rfl | rfl | rfl
   · exact (.arg (.here (.agg (.here .mp))))
   · exact (.arg (.here (.agg (.there (.here .mp)))))
   · exact (.arg (.here (.agg (.there (.there (.here .mp))))))
   · exact (.arg (.there (.there (.there (.here (.fn2 (.here .ptr)))))))
   )
theorem BL   {s:Sc} {DG:Nd} {clause:Nd} {report:(List Dg)} {yR:Unit} {qreportR:(List Dg)} (h:A4  s DG clause report=some (yR,qreportR)):Sound P G (.call 35 [.agg [.mp 0,.mp 1,.mp 2],.agg (Bl DG),.agg (Bl clause),.fn (.func 54) [] [.ptr 3 0]] ⟨[(3,.cells [.sl (.row 0 2) report.length (rows BV report)]),(2,(C0 s.Ai)),(1,(Bh s.lines)),(0,(Bh s.facts))],4,[(0,report.length)],1⟩ (.ret (.A9 [])) ⟨[(3,.cells [.sl (.row 0 2) qreportR.length (rows BV qreportR)]),(2,(C0 s.Ai)),(1,(Bh s.lines)),(0,(Bh s.facts))],4,[(0,qreportR.length)],1⟩):=by
 unfold A4 at h
 refine DI Hd.mixed (AB Tryz.func35 b35 ?_)
 revert h
 refine Ae (fun hb1=>?_) fun hb1=>?_
 refine Fb (fun Q v=>Je P G Tryz.f35 4 ⟨[(3,.cells [.sl (.row 0 2) report.length (rows BV report)]),(2,(C0 s.Ai)),(1,(Bh s.lines)),(0,(Bh s.facts))],4,[(0,report.length)],1⟩ Q (.A9 []) ⟨[(3,.cells [.sl (.row 0 2) v.2.length (rows BV v.2)]),(2,(C0 s.Ai)),(1,(Bh s.lines)),(0,(Bh s.facts))],4,[(0,v.2.length)],1⟩) (fun i0 (w3_0:(List Dg)) (j0:List Value)=>fr 80 [(3,.fn (.func 54) [] [.ptr 3 0]),(4,.ptr 4 0),(5,.ptr 5 0),(19,.sl .lost clause.kids.length (Ba clause.kids)),(20,.sc (.int .i64 ((clause.kids.length:Nat):Int))),(21,.sc (.int .i64 ((i0:Nat):Int)))] [11,17,22,29,41,42,43,56,66,67,69,70,71,74,75] j0) (fun (w3_0:(List Dg))=>⟨[(6,.cells (Bl clause)),(5,.cells (Bl DG)),(4,.cells [.mp 0,.mp 1,.mp 2]),(3,.cells [.sl (.row 0 2) w3_0.length (rows BV w3_0)]),(2,(C0 s.Ai)),(1,(Bh s.lines)),(0,(Bh s.facts))],7,[(0,w3_0.length)],1⟩) (fun (w3_0:(List Dg)) (jx:List Value)=>fr 80 [] [11,17,22,29,41,42,43,56,66,67,69,70,71,74,75] jx) (fun (w3_0:(List Dg))=>⟨[(6,.cells (Bl clause)),(5,.cells (Bl DG)),(4,.cells [.mp 0,.mp 1,.mp 2]),(3,.cells [.sl (.row 0 2) w3_0.length (rows BV w3_0)]),(2,(C0 s.Ai)),(1,(Bh s.lines)),(0,(Bh s.facts))],7,[(0,w3_0.length)],1⟩) [undef,.bool true] (EO [] 0 (sb uC 420) [.code (sb uC 53),.code (sb uC 7)] (Ab 300 [pb hb1]) (by kernel_rfl)) ?_ ?_ ?_ (fun v h=>by cases h;exact .outer .body)
 rintro i0 w3_0 j0 hge hq
 exact CT (Ab 300 [pb (Kz hge)]) (by kernel_rfl) (hq (js 15 j0 [(2,.bool false)]))
 rintro i0 e0 w3_0 j0 r he0 hi0 mi0 k
 show By  s DG i0 e0 w3_0=some r→_
 unfold By
 refine Ae (fun hb9=>?_) fun hb9=>?_
 refine Ah ?_
 rintro ⟨y7a,y7b⟩ hy7
 dsimp only
 rintro ⟨⟩
 exact BJ Hd.Aa [fq (Al.B9 clause.kids)] [bp (Al.pl clause),bp (Al.pl DG),none,br AF 0 2 y7b,BP s.Ai,AU s.lines,AU s.facts] (Ab 300 [pb (GD hi0),Ct (BD .lost he0),pb hb9,Ay (Ax (Ap hy7) 3 0),pi mi0]) (by kernel_rfl) (k (js 15 j0 [(2,.bool true),(3,.bool true)]))
 refine Ae (fun hb10=>?_) fun hb10=>?_
 rintro ⟨⟩
 exact BJ Hd.Aa [fq (Al.B9 clause.kids)] [bp (Al.pl clause),bp (Al.pl DG),none,br AF 0 2 w3_0,BP s.Ai,AU s.lines,AU s.facts] (Ab 300 [pb (GD hi0),Ct (BD .lost he0),pb hb9,KN (VW s.Ai e0.n hb10),pi mi0]) (by kernel_rfl) (k (js 15 j0 [(0,.bool true),(2,.bool true),(3,.bool false),(4,.bool true),(5,.bool true),(6,.bool false)]))
 refine Ah ?_
 rintro ⟨y8a,y8b⟩ hy8
 dsimp only
 rintro ⟨⟩
 exact BJ Hd.Aa [fq (Al.B9 clause.kids)] [bp (Al.pl clause),bp (Al.pl DG),none,br AF 0 2 y8b,BP s.Ai,AU s.lines,AU s.facts] (Ab 300 [pb (GD hi0),Ct (BD .lost he0),pb hb9,KN (VW s.Ai e0.n hb10),Ay (Ax (Ap hy8) 3 0),pi mi0]) (by kernel_rfl) (k (js 15 j0 [(0,.bool false),(2,.bool true),(3,.bool false),(4,.bool false),(5,.bool false),(6,.bool true)]))
 rintro w3_0_9 jx_9
 intro h
 have hE:=Option.some.inj h
 obtain ⟨hE0,hF0⟩:=Prod.mk.inj hE
 subst hE0 hF0
 exact An Hd.Aa _ _ [⟨.A9 [],.A9 [],(.plain rfl)⟩] [br AF 0 2 w3_0_9,BP s.Ai,AU s.lines,AU s.facts] (Cc 300 []) (by kernel_rfl) .body
 let o1:List (PC P G):=[pb hb1,KN (c7 s.lines DG.name)]
 refine Ae (fun hb2=>?_) fun hb2=>?_
 refine Ah fun x1 hx1=>?_
 refine Ah ?_
 rintro ⟨y2a,y2b⟩ hy2
 dsimp only
 let o2:List (PC P G):=o1++[pb hb2,Ct (BD .lost hx1),Ay (DY (EM hy2) 0 1 2 3 0)]
 refine Ae (fun hb3=>?_) fun hb3=>?_
 intro h
 have hE:=Option.some.inj h
 obtain ⟨hE0,hF0⟩:=Prod.mk.inj hE
 subst hE0 hF0
 exact D1 Hd.Aa _ _ [⟨.A9 [],.A9 [],(.plain rfl)⟩] [br AF 0 2 y2b,BP s.Ai,AU s.lines,AU s.facts] (Ab 300 (o2++[pn hb3])) (by kernel_rfl)
 refine Ae (fun hb4=>?_) fun hb4=>?_
 intro h
 have hE:=Option.some.inj h
 obtain ⟨hE0,hF0⟩:=Prod.mk.inj hE
 subst hE0 hF0
 exact D1 Hd.Aa _ _ [⟨.A9 [],.A9 [],(.plain rfl)⟩] [br AF 0 2 y2b,BP s.Ai,AU s.lines,AU s.facts] (Ab 300 (o2++[pn hb3,pn hb4])) (by kernel_rfl)
 refine Ae (fun hb5=>?_) fun hb5=>?_
 intro h
 have hE:=Option.some.inj h
 obtain ⟨hE0,hF0⟩:=Prod.mk.inj hE
 subst hE0 hF0
 exact D1 Hd.Aa _ _ [⟨.A9 [],.A9 [],(.plain rfl)⟩] [br AF 0 2 y2b,BP s.Ai,AU s.lines,AU s.facts] (Ab 300 (o2++[pn hb3,pn hb4,pn hb5])) (by kernel_rfl)
 refine Ah ?_
 rintro ⟨y3a,y3b⟩ hy3
 dsimp only
 intro h
 have hE:=Option.some.inj h
 obtain ⟨hE0,hF0⟩:=Prod.mk.inj hE
 subst hE0 hF0
 exact D1 Hd.Aa _ _ [⟨.A9 [],.A9 [],(.plain rfl)⟩] [br AF 0 2 y3b,BP s.Ai,AU s.lines,AU s.facts] (Ab 300 (o2++[pn hb3,pn hb4,pn hb5,Ay (Ax (Ap hy3) 3 0)])) (by kernel_rfl)
 refine Ah fun x4 hx4=>?_
 refine Ah ?_
 rintro ⟨y5a,y5b⟩ hy5
 dsimp only
 let o3:List (PC P G):=o1++[pb hb2,Ct (BD .lost hx4),Ay (DY (EM hy5) 0 1 2 3 0)]
 refine Ae (fun hb6=>?_) fun hb6=>?_
 intro h
 have hE:=Option.some.inj h
 obtain ⟨hE0,hF0⟩:=Prod.mk.inj hE
 subst hE0 hF0
 exact D1 Hd.Aa _ _ [⟨.A9 [],.A9 [],(.plain rfl)⟩] [br AF 0 2 y5b,BP s.Ai,AU s.lines,AU s.facts] (Ab 300 (o3++[pn hb6])) (by kernel_rfl)
 refine Ae (fun hb7=>?_) fun hb7=>?_
 intro h
 have hE:=Option.some.inj h
 obtain ⟨hE0,hF0⟩:=Prod.mk.inj hE
 subst hE0 hF0
 exact D1 Hd.Aa _ _ [⟨.A9 [],.A9 [],(.plain rfl)⟩] [br AF 0 2 y5b,BP s.Ai,AU s.lines,AU s.facts] (Ab 300 (o3++[pn hb6,pn hb7])) (by kernel_rfl)
 refine Ae (fun hb8=>?_) fun hb8=>?_
 intro h
 have hE:=Option.some.inj h
 obtain ⟨hE0,hF0⟩:=Prod.mk.inj hE
 subst hE0 hF0
 exact D1 Hd.Aa _ _ [⟨.A9 [],.A9 [],(.plain rfl)⟩] [br AF 0 2 y5b,BP s.Ai,AU s.lines,AU s.facts] (Ab 300 (o3++[pn hb6,pn hb7,pn hb8])) (by kernel_rfl)
 refine Ah ?_
 rintro ⟨y6a,y6b⟩ hy6
 dsimp only
 intro h
 have hE:=Option.some.inj h
 obtain ⟨hE0,hF0⟩:=Prod.mk.inj hE
 subst hE0 hF0
 exact D1 Hd.Aa _ _ [⟨.A9 [],.A9 [],(.plain rfl)⟩] [br AF 0 2 y6b,BP s.Ai,AU s.lines,AU s.facts] (Ab 300 (o3++[pn hb6,pn hb7,pn hb8,Ay (Ax (Ap hy6) 3 0)])) (by kernel_rfl)
noncomputable def Wm:Code:=A3 Tryz.f16
theorem b16:Tryz.f16.body=some Wm:=by kernel_rfl
noncomputable def G7  (y3:Sc) (e0:Nd) (i1:Nat) (e1:Nd) (w1_0:(List Dg)):Option (Lp (List Dg) (List Dg) (List Dg)):=(A4 y3 e0 e1 w1_0).bind fun (y14a,y14b)=>some (.nx y14b)
noncomputable def GN  (y3:Sc) (e0:Nd) (i2:Nat) (e2:Nd) (w1_0:(List Dg)):Option (Lp (List Dg) (List Dg) (List Dg)):=(A4 y3 e0 e2 w1_0).bind fun (y16a,y16b)=>some (.nx y16b)
noncomputable def GR  (y3:Sc) (e0:Nd) (i3:Nat) (e3:Nd) (w1_0:(List Dg)):Option (Lp (List Dg) (List Dg) (List Dg)):=(A4 y3 e0 e3 w1_0).bind fun (y18a,y18b)=>some (.nx y18b)
noncomputable def GP  (y3:Sc) (e0:Nd) (i4:Nat) (e4:Nd) (w1_0:(List Dg)):Option (Lp (List Dg) (List Dg) (List Dg)):=(A4 y3 e0 e4 w1_0).bind fun (y20a,y20b)=>some (.nx y20b)
noncomputable def G4  (y3:Sc) (e0:Nd) (i5:Nat) (e5:Nd) (w1_0:(List Dg)):Option (Lp (List Dg) (List Dg) (List Dg)):=(A4 y3 e0 e5 w1_0).bind fun (y22a,y22b)=>some (.nx y22b)
noncomputable def Eu  (y3:Sc) (i0:Nat) (e0:Nd) (count6:Int) (w1_0:(List Dg)):Option (Lp (Int×(List Dg)) (List Dg) (List Dg)):=cond (Bq e0.kind 4) (cond ((y3.lines.get e0.name).isSome) (cond (F4 60 (BH count6 1)) ((Ao 2 e0.att w1_0).bind fun (y5a,y5b)=>(Ku e0.kids 1 ((e0.kids.length:Nat):Int)).bind fun l6=>(It l6.length (AL (fun i y x=>G7  y3 e0 i y x) (fun x=>x) (l6.drop 0) 0 y5b)).bind (Ii (fun (w1_0_15:(List Dg))=>some (.nx ((BH count6 1),w1_0_15))) (fun v=>some (.rt v)))) (cond (BA ((y3.Ai.get e0.n).getD ByteArray.empty).data.toList e0.name.data.toList) ((Ku e0.kids 1 ((e0.kids.length:Nat):Int)).bind fun l7=>(It l7.length (AL (fun i y x=>GN  y3 e0 i y x) (fun x=>x) (l7.drop 0) 0 w1_0)).bind (Ii (fun (w1_0_17:(List Dg))=>some (.nx ((BH count6 1),w1_0_17))) (fun v=>some (.rt v)))) ((Ao 101 e0.att w1_0).bind fun (y8a,y8b)=>(Ku e0.kids 1 ((e0.kids.length:Nat):Int)).bind fun l9=>(It l9.length (AL (fun i y x=>GR  y3 e0 i y x) (fun x=>x) (l9.drop 0) 0 y8b)).bind (Ii (fun (w1_0_19:(List Dg))=>some (.nx ((BH count6 1),w1_0_19))) (fun v=>some (.rt v)))))) (cond (F4 60 (BH count6 1)) ((Ao 2 e0.att w1_0).bind fun (y10a,y10b)=>(Ku e0.kids 1 ((e0.kids.length:Nat):Int)).bind fun l11=>(It l11.length (AL (fun i y x=>GP  y3 e0 i y x) (fun x=>x) (l11.drop 0) 0 y10b)).bind (Ii (fun (w1_0_21:(List Dg))=>some (.nx ((BH count6 1),w1_0_21))) (fun v=>some (.rt v)))) ((Ao 91 e0.att w1_0).bind fun (y12a,y12b)=>(Ku e0.kids 1 ((e0.kids.length:Nat):Int)).bind fun l13=>(It l13.length (AL (fun i y x=>G4  y3 e0 i y x) (fun x=>x) (l13.drop 0) 0 y12b)).bind (Ii (fun (w1_0_23:(List Dg))=>some (.nx ((BH count6 1),w1_0_23))) (fun v=>some (.rt v)))))) (some (.nx (count6,w1_0)))
noncomputable def Gm  (source:Nd):Option (List Dg):=cond (Bq source.kind 1) ((DW source).bind fun y1=>cond y1 ((Dv).bind fun y2=>(DM source).bind fun y3=>(B7 source []).bind fun (y4a,y4b)=>(It source.kids.length (AL (fun i y x=>Eu  y3 i y x.1 x.2) (fun x=>x.2) (source.kids.drop 0) 0 (0,y4b))).bind (Ii (fun (w1_0_24:(List Dg))=>some w1_0_24) (fun v=>some v))) (some [(⟨1,0⟩:Dg)])) (some [(⟨1,0⟩:Dg)])
theorem NM   {source:Nd} {yR:(List Dg)} (h:Gm  source=some yR):Pure P G 16 [.agg (Bl source)] (.sl .lost yR.length (rows BV yR)):=by
 unfold Gm at h
 refine BB Hd.mixed Hd.Aa (AB Tryz.func16 b16 ?_) (A2 (Al.GB source) rfl) (AF.B9 yR)
 revert h
 refine Ae (fun hb1=>?_) fun hb1=>?_
 refine Ah fun y1 hy1=>?_
 refine Ae (fun hv=>?_) fun hv=>?_
 subst hv
 refine Ah fun y2 hy2=>?_
 refine Ah fun y3 hy3=>?_
 refine Ah ?_
 rintro ⟨y4a,y4b⟩ hy4
 dsimp only
 refine Fb (fun Q v=>Fq P Tryz.f16 0 Q (.sl .lost v.length (rows BV v))) (fun i0 ((count6,w1_0):(Int×(List Dg))) (j0:List Value)=>fr 97 [(3,.ptr 1 0),(4,.fn (.func 54) [] [.ptr 1 0]),(5,.ptr 7 0),(6,.sc (.int .i64 count6)),(33,.sl .lost source.kids.length (Ba source.kids)),(34,.sc (.int .i64 ((source.kids.length:Nat):Int))),(35,.sc (.int .i64 ((i0:Nat):Int)))] [10,15,16,18,19,20,36,41,51,52,54,59,60,61,66,74,84] j0) (fun ((count6,w1_0):(Int×(List Dg)))=>⟨[(7,.cells [.mp 4,.mp 5,.mp 6]),(6,(C0 y3.Ai)),(5,(Bh y3.lines)),(4,(Bh y3.facts)),(1,.cells [.sl (.row 0 2) w1_0.length (rows BV w1_0)]),(0,.cells (Bl source))],8,[(0,w1_0.length)],1⟩) (fun (w1_0:(List Dg)) (jx:List Value)=>fr 97 [(3,.ptr 1 0)] [10,15,16,18,19,20,36,41,51,52,54,59,60,61,66,74,84] jx) (fun (w1_0:(List Dg))=>⟨[(7,.cells [.mp 4,.mp 5,.mp 6]),(6,(C0 y3.Ai)),(5,(Bh y3.lines)),(4,(Bh y3.facts)),(1,.cells [.sl (.row 0 2) w1_0.length (rows BV w1_0)]),(0,.cells (Bl source))],8,[(0,w1_0.length)],1⟩) [undef,.bool false,.bool false,.bool true,.bool false,.bool false] (EO [] 0 (sb Wm 2036) [.code (sb Wm 255)] (Ab 300 [pn hb1,Ak (D9 hy1),SC (v:=.A9 [.ptr 1 0,.fn (.func 54) [] [.ptr 1 0]]) (h:=[(1,.cells [.sl .full 0 []])] ) (F:=[]) (Jr (Ih hy2) 1 0),SC (v:=.agg [.mp 4,.mp 5,.mp 6]) (h:=[(6,(C0 y3.Ai)),(5,(Bh y3.lines)),(4,(Bh y3.facts))] ) (F:=[]) (JL (IC hy3) 2 0),uL [.b 1 0 2],Ay (IM (Hj hy4) 1 0)]) (by kernel_rfl)) ?_ ?_ ?_ (fun v h=>by cases h;exact .outer .body)
 rintro i0 ⟨count6,w1_0⟩ j0 hge hq
 exact CT (Ab 300 [pb (Kz hge)]) (by kernel_rfl) (hq (js 17 j0 [(6,.bool false)]))
 rintro i0 e0 ⟨count6,w1_0⟩ j0 r he0 hi0 mi0 k
 show Eu  y3 i0 e0 count6 w1_0=some r→_
 unfold Eu
 let o1:List (PC P G):=[pb (GD hi0),Ct (BD .lost he0)]
 refine Ae (fun hb2=>?_) fun hb2=>?_
 refine Ae (fun hb3=>?_) fun hb3=>?_
 let o2:List (PC P G):=o1++[pn hb2,pk,KN (Pk y3.lines e0.name hb3)]
 refine Ae (fun hb4=>?_) fun hb4=>?_
 refine Ah ?_
 rintro ⟨y5a,y5b⟩ hy5
 dsimp only
 refine Ah fun l6 hl6=>?_
 refine Fb (fun Q v=>Fq P Tryz.f16 0 Q (.sl .lost v.length (rows BV v))) (fun i1 (w1_0:(List Dg)) (j1:List Value)=>fr 97 [(3,.ptr 1 0),(4,.fn (.func 54) [] [.ptr 1 0]),(5,.ptr 7 0),(6,.sc (.int .i64 (BH count6 1))),(8,.ptr 8 0),(33,.sl .lost source.kids.length (Ba source.kids)),(34,.sc (.int .i64 ((source.kids.length:Nat):Int))),(35,.sc (.int .i64 ((i0:Nat):Int))),(81,.sl .lost l6.length (Ba l6)),(82,.sc (.int .i64 ((l6.length:Nat):Int))),(83,.sc (.int .i64 ((i1:Nat):Int)))] [10,15,16,18,19,20,36,41,51,52,54,59,60,61,66,74,84] j1) (fun (w1_0:(List Dg))=>⟨[(8,.cells (Bl e0)),(7,.cells [.mp 4,.mp 5,.mp 6]),(6,(C0 y3.Ai)),(5,(Bh y3.lines)),(4,(Bh y3.facts)),(1,.cells [.sl (.row 0 2) w1_0.length (rows BV w1_0)]),(0,.cells (Bl source))],9,[(0,w1_0.length)],1⟩) (fun (w1_0:(List Dg)) (jx:List Value)=>fr 97 [(3,.ptr 1 0),(4,.fn (.func 54) [] [.ptr 1 0]),(5,.ptr 7 0),(6,.sc (.int .i64 (BH count6 1))),(33,.sl .lost source.kids.length (Ba source.kids)),(34,.sc (.int .i64 ((source.kids.length:Nat):Int))),(35,.sc (.int .i64 ((i0:Nat):Int)))] [10,15,16,18,19,20,36,41,51,52,54,59,60,61,66,74,84] jx) (fun (w1_0:(List Dg))=>⟨[(8,.cells (Bl e0)),(7,.cells [.mp 4,.mp 5,.mp 6]),(6,(C0 y3.Ai)),(5,(Bh y3.lines)),(4,(Bh y3.facts)),(1,.cells [.sl (.row 0 2) w1_0.length (rows BV w1_0)]),(0,.cells (Bl source))],9,[(0,w1_0.length)],1⟩) (js 17 j0 [(0,.bool true),(6,.bool true),(7,.bool false),(8,.bool true),(9,.bool true),(10,.bool true)]) (EO [] 3 (sb Wm 8342780) [.endb 1,.code (sb Wm 16295)] (Ab 300 (o2++[pb hb4,Ay (Ax (Ap hy5) 1 0),PN (GI hl6)])) (by kernel_rfl)) ?_ ?_ ?_ (fun v h=>by cases h;exact .outer (.GS k))
 rintro i1 w1_0 j1 hge hq
 exact CT (Ab 300 [pb (Kz hge)]) (by kernel_rfl) (hq (js 17 j1 [(16,.bool false)]))
 rintro i1 e1 w1_0 j1 r he1 hi1 mi1 k
 show G7  y3 e0 i1 e1 w1_0=some r→_
 unfold G7
 refine Ah ?_
 rintro ⟨y14a,y14b⟩ hy14
 dsimp only
 rintro ⟨⟩
 exact BJ Hd.Aa [fq (Al.B9 source.kids),fq (Al.B9 l6)] [bp (Al.pl e0),none,BP y3.Ai,AU y3.lines,AU y3.facts,br AF 0 2 y14b,bp (Al.pl source)] (Ab 300 [pb (GD hi1),Ct (BD .lost he1),Ay (B1 (BL hy14) 4 5 6 1 0),pi mi1]) (by kernel_rfl) (k (js 17 j1 [(16,.bool true)]))
 rintro w1_0_15 jx_15
 rintro ⟨⟩
 exact BJ Hd.Aa [fq (Al.B9 source.kids)] [none,BP y3.Ai,AU y3.lines,AU y3.facts,br AF 0 2 w1_0_15,bp (Al.pl source)] (Cc 300 [pi mi0]) (by kernel_rfl) (k jx_15)
 refine Ae (fun hb5=>?_) fun hb5=>?_
 refine Ah fun l7 hl7=>?_
 refine Fb (fun Q v=>Fq P Tryz.f16 0 Q (.sl .lost v.length (rows BV v))) (fun i2 (w1_0:(List Dg)) (j2:List Value)=>fr 97 [(3,.ptr 1 0),(4,.fn (.func 54) [] [.ptr 1 0]),(5,.ptr 7 0),(6,.sc (.int .i64 (BH count6 1))),(8,.ptr 8 0),(33,.sl .lost source.kids.length (Ba source.kids)),(34,.sc (.int .i64 ((source.kids.length:Nat):Int))),(35,.sc (.int .i64 ((i0:Nat):Int))),(81,.sl .lost l7.length (Ba l7)),(82,.sc (.int .i64 ((l7.length:Nat):Int))),(83,.sc (.int .i64 ((i2:Nat):Int)))] [10,15,16,18,19,20,36,41,51,52,54,59,60,61,66,74,84] j2) (fun (w1_0:(List Dg))=>⟨[(8,.cells (Bl e0)),(7,.cells [.mp 4,.mp 5,.mp 6]),(6,(C0 y3.Ai)),(5,(Bh y3.lines)),(4,(Bh y3.facts)),(1,.cells [.sl (.row 0 2) w1_0.length (rows BV w1_0)]),(0,.cells (Bl source))],9,[(0,w1_0.length)],1⟩) (fun (w1_0:(List Dg)) (jx:List Value)=>fr 97 [(3,.ptr 1 0),(4,.fn (.func 54) [] [.ptr 1 0]),(5,.ptr 7 0),(6,.sc (.int .i64 (BH count6 1))),(33,.sl .lost source.kids.length (Ba source.kids)),(34,.sc (.int .i64 ((source.kids.length:Nat):Int))),(35,.sc (.int .i64 ((i0:Nat):Int)))] [10,15,16,18,19,20,36,41,51,52,54,59,60,61,66,74,84] jx) (fun (w1_0:(List Dg))=>⟨[(8,.cells (Bl e0)),(7,.cells [.mp 4,.mp 5,.mp 6]),(6,(C0 y3.Ai)),(5,(Bh y3.lines)),(4,(Bh y3.facts)),(1,.cells [.sl (.row 0 2) w1_0.length (rows BV w1_0)]),(0,.cells (Bl source))],9,[(0,w1_0.length)],1⟩) [.bool true,(jv j0 1),(jv j0 2),(jv j0 3),(jv j0 4),(jv j0 5),.bool true,.bool false,.bool true,.bool false,.bool false,.bool false,.bool true,.bool false,.bool false,.bool false,(jv j0 16)] (EO [] 3 (sb Wm 8342780) [.endb 1,.code (sb Wm 16295)] (Ab 300 (o2++[pb hb4,KN (oM y3.Ai e0.n),pn hb5,PN (GI hl7)])) (by kernel_rfl)) ?_ ?_ ?_ (fun v h=>by cases h;exact .outer (.GS k))
 rintro i2 w1_0 j2 hge hq
 exact CT (Ab 300 [pb (Kz hge)]) (by kernel_rfl) (hq (js 17 j2 [(16,.bool false)]))
 rintro i2 e2 w1_0 j2 r he2 hi2 mi2 k
 show GN  y3 e0 i2 e2 w1_0=some r→_
 unfold GN
 refine Ah ?_
 rintro ⟨y16a,y16b⟩ hy16
 dsimp only
 rintro ⟨⟩
 exact BJ Hd.Aa [fq (Al.B9 source.kids),fq (Al.B9 l7)] [bp (Al.pl e0),none,BP y3.Ai,AU y3.lines,AU y3.facts,br AF 0 2 y16b,bp (Al.pl source)] (Ab 300 [pb (GD hi2),Ct (BD .lost he2),Ay (B1 (BL hy16) 4 5 6 1 0),pi mi2]) (by kernel_rfl) (k (js 17 j2 [(16,.bool true)]))
 rintro w1_0_17 jx_17
 rintro ⟨⟩
 exact BJ Hd.Aa [fq (Al.B9 source.kids)] [none,BP y3.Ai,AU y3.lines,AU y3.facts,br AF 0 2 w1_0_17,bp (Al.pl source)] (Cc 300 [pi mi0]) (by kernel_rfl) (k jx_17)
 refine Ah ?_
 rintro ⟨y8a,y8b⟩ hy8
 dsimp only
 refine Ah fun l9 hl9=>?_
 refine Fb (fun Q v=>Fq P Tryz.f16 0 Q (.sl .lost v.length (rows BV v))) (fun i3 (w1_0:(List Dg)) (j3:List Value)=>fr 97 [(3,.ptr 1 0),(4,.fn (.func 54) [] [.ptr 1 0]),(5,.ptr 7 0),(6,.sc (.int .i64 (BH count6 1))),(8,.ptr 8 0),(33,.sl .lost source.kids.length (Ba source.kids)),(34,.sc (.int .i64 ((source.kids.length:Nat):Int))),(35,.sc (.int .i64 ((i0:Nat):Int))),(81,.sl .lost l9.length (Ba l9)),(82,.sc (.int .i64 ((l9.length:Nat):Int))),(83,.sc (.int .i64 ((i3:Nat):Int)))] [10,15,16,18,19,20,36,41,51,52,54,59,60,61,66,74,84] j3) (fun (w1_0:(List Dg))=>⟨[(8,.cells (Bl e0)),(7,.cells [.mp 4,.mp 5,.mp 6]),(6,(C0 y3.Ai)),(5,(Bh y3.lines)),(4,(Bh y3.facts)),(1,.cells [.sl (.row 0 2) w1_0.length (rows BV w1_0)]),(0,.cells (Bl source))],9,[(0,w1_0.length)],1⟩) (fun (w1_0:(List Dg)) (jx:List Value)=>fr 97 [(3,.ptr 1 0),(4,.fn (.func 54) [] [.ptr 1 0]),(5,.ptr 7 0),(6,.sc (.int .i64 (BH count6 1))),(33,.sl .lost source.kids.length (Ba source.kids)),(34,.sc (.int .i64 ((source.kids.length:Nat):Int))),(35,.sc (.int .i64 ((i0:Nat):Int)))] [10,15,16,18,19,20,36,41,51,52,54,59,60,61,66,74,84] jx) (fun (w1_0:(List Dg))=>⟨[(8,.cells (Bl e0)),(7,.cells [.mp 4,.mp 5,.mp 6]),(6,(C0 y3.Ai)),(5,(Bh y3.lines)),(4,(Bh y3.facts)),(1,.cells [.sl (.row 0 2) w1_0.length (rows BV w1_0)]),(0,.cells (Bl source))],9,[(0,w1_0.length)],1⟩) [.bool true,(jv j0 1),(jv j0 2),(jv j0 3),(jv j0 4),(jv j0 5),.bool true,.bool false,.bool true,.bool false,.bool false,.bool false,.bool true,.bool false,.bool true,.bool true,(jv j0 16)] (EO [] 3 (sb Wm 8342780) [.endb 1,.code (sb Wm 16295)] (Ab 300 (o2++[pb hb4,KN (oM y3.Ai e0.n),pn hb5,Ay (Ax (Ap hy8) 1 0),PN (GI hl9)])) (by kernel_rfl)) ?_ ?_ ?_ (fun v h=>by cases h;exact .outer (.GS k))
 rintro i3 w1_0 j3 hge hq
 exact CT (Ab 300 [pb (Kz hge)]) (by kernel_rfl) (hq (js 17 j3 [(16,.bool false)]))
 rintro i3 e3 w1_0 j3 r he3 hi3 mi3 k
 show GR  y3 e0 i3 e3 w1_0=some r→_
 unfold GR
 refine Ah ?_
 rintro ⟨y18a,y18b⟩ hy18
 dsimp only
 rintro ⟨⟩
 exact BJ Hd.Aa [fq (Al.B9 source.kids),fq (Al.B9 l9)] [bp (Al.pl e0),none,BP y3.Ai,AU y3.lines,AU y3.facts,br AF 0 2 y18b,bp (Al.pl source)] (Ab 300 [pb (GD hi3),Ct (BD .lost he3),Ay (B1 (BL hy18) 4 5 6 1 0),pi mi3]) (by kernel_rfl) (k (js 17 j3 [(16,.bool true)]))
 rintro w1_0_19 jx_19
 rintro ⟨⟩
 exact BJ Hd.Aa [fq (Al.B9 source.kids)] [none,BP y3.Ai,AU y3.lines,AU y3.facts,br AF 0 2 w1_0_19,bp (Al.pl source)] (Cc 300 [pi mi0]) (by kernel_rfl) (k jx_19)
 refine Ae (fun hb6=>?_) fun hb6=>?_
 refine Ah ?_
 rintro ⟨y10a,y10b⟩ hy10
 dsimp only
 refine Ah fun l11 hl11=>?_
 refine Fb (fun Q v=>Fq P Tryz.f16 0 Q (.sl .lost v.length (rows BV v))) (fun i4 (w1_0:(List Dg)) (j4:List Value)=>fr 97 [(3,.ptr 1 0),(4,.fn (.func 54) [] [.ptr 1 0]),(5,.ptr 7 0),(6,.sc (.int .i64 (BH count6 1))),(8,.ptr 8 0),(33,.sl .lost source.kids.length (Ba source.kids)),(34,.sc (.int .i64 ((source.kids.length:Nat):Int))),(35,.sc (.int .i64 ((i0:Nat):Int))),(81,.sl .lost l11.length (Ba l11)),(82,.sc (.int .i64 ((l11.length:Nat):Int))),(83,.sc (.int .i64 ((i4:Nat):Int)))] [10,15,16,18,19,20,36,41,51,52,54,59,60,61,66,74,84] j4) (fun (w1_0:(List Dg))=>⟨[(8,.cells (Bl e0)),(7,.cells [.mp 4,.mp 5,.mp 6]),(6,(C0 y3.Ai)),(5,(Bh y3.lines)),(4,(Bh y3.facts)),(1,.cells [.sl (.row 0 2) w1_0.length (rows BV w1_0)]),(0,.cells (Bl source))],9,[(0,w1_0.length)],1⟩) (fun (w1_0:(List Dg)) (jx:List Value)=>fr 97 [(3,.ptr 1 0),(4,.fn (.func 54) [] [.ptr 1 0]),(5,.ptr 7 0),(6,.sc (.int .i64 (BH count6 1))),(33,.sl .lost source.kids.length (Ba source.kids)),(34,.sc (.int .i64 ((source.kids.length:Nat):Int))),(35,.sc (.int .i64 ((i0:Nat):Int)))] [10,15,16,18,19,20,36,41,51,52,54,59,60,61,66,74,84] jx) (fun (w1_0:(List Dg))=>⟨[(8,.cells (Bl e0)),(7,.cells [.mp 4,.mp 5,.mp 6]),(6,(C0 y3.Ai)),(5,(Bh y3.lines)),(4,(Bh y3.facts)),(1,.cells [.sl (.row 0 2) w1_0.length (rows BV w1_0)]),(0,.cells (Bl source))],9,[(0,w1_0.length)],1⟩) (js 17 j0 [(0,.bool false),(6,.bool true),(7,.bool false),(8,.bool false),(9,.bool true),(10,.bool true)]) (EO [] 3 (sb Wm 8342780) [.endb 1,.code (sb Wm 16295)] (Ab 300 (o1++[pn hb2,pk,KN (Pk y3.lines e0.name hb3),pb hb6,Ay (Ax (Ap hy10) 1 0),PN (GI hl11)])) (by kernel_rfl)) ?_ ?_ ?_ (fun v h=>by cases h;exact .outer (.GS k))
 rintro i4 w1_0 j4 hge hq
 exact CT (Ab 300 [pb (Kz hge)]) (by kernel_rfl) (hq (js 17 j4 [(16,.bool false)]))
 rintro i4 e4 w1_0 j4 r he4 hi4 mi4 k
 show GP  y3 e0 i4 e4 w1_0=some r→_
 unfold GP
 refine Ah ?_
 rintro ⟨y20a,y20b⟩ hy20
 dsimp only
 rintro ⟨⟩
 exact BJ Hd.Aa [fq (Al.B9 source.kids),fq (Al.B9 l11)] [bp (Al.pl e0),none,BP y3.Ai,AU y3.lines,AU y3.facts,br AF 0 2 y20b,bp (Al.pl source)] (Ab 300 [pb (GD hi4),Ct (BD .lost he4),Ay (B1 (BL hy20) 4 5 6 1 0),pi mi4]) (by kernel_rfl) (k (js 17 j4 [(16,.bool true)]))
 rintro w1_0_21 jx_21
 rintro ⟨⟩
 exact BJ Hd.Aa [fq (Al.B9 source.kids)] [none,BP y3.Ai,AU y3.lines,AU y3.facts,br AF 0 2 w1_0_21,bp (Al.pl source)] (Cc 300 [pi mi0]) (by kernel_rfl) (k jx_21)
 refine Ah ?_
 rintro ⟨y12a,y12b⟩ hy12
 dsimp only
 refine Ah fun l13 hl13=>?_
 refine Fb (fun Q v=>Fq P Tryz.f16 0 Q (.sl .lost v.length (rows BV v))) (fun i5 (w1_0:(List Dg)) (j5:List Value)=>fr 97 [(3,.ptr 1 0),(4,.fn (.func 54) [] [.ptr 1 0]),(5,.ptr 7 0),(6,.sc (.int .i64 (BH count6 1))),(8,.ptr 8 0),(33,.sl .lost source.kids.length (Ba source.kids)),(34,.sc (.int .i64 ((source.kids.length:Nat):Int))),(35,.sc (.int .i64 ((i0:Nat):Int))),(81,.sl .lost l13.length (Ba l13)),(82,.sc (.int .i64 ((l13.length:Nat):Int))),(83,.sc (.int .i64 ((i5:Nat):Int)))] [10,15,16,18,19,20,36,41,51,52,54,59,60,61,66,74,84] j5) (fun (w1_0:(List Dg))=>⟨[(8,.cells (Bl e0)),(7,.cells [.mp 4,.mp 5,.mp 6]),(6,(C0 y3.Ai)),(5,(Bh y3.lines)),(4,(Bh y3.facts)),(1,.cells [.sl (.row 0 2) w1_0.length (rows BV w1_0)]),(0,.cells (Bl source))],9,[(0,w1_0.length)],1⟩) (fun (w1_0:(List Dg)) (jx:List Value)=>fr 97 [(3,.ptr 1 0),(4,.fn (.func 54) [] [.ptr 1 0]),(5,.ptr 7 0),(6,.sc (.int .i64 (BH count6 1))),(33,.sl .lost source.kids.length (Ba source.kids)),(34,.sc (.int .i64 ((source.kids.length:Nat):Int))),(35,.sc (.int .i64 ((i0:Nat):Int)))] [10,15,16,18,19,20,36,41,51,52,54,59,60,61,66,74,84] jx) (fun (w1_0:(List Dg))=>⟨[(8,.cells (Bl e0)),(7,.cells [.mp 4,.mp 5,.mp 6]),(6,(C0 y3.Ai)),(5,(Bh y3.lines)),(4,(Bh y3.facts)),(1,.cells [.sl (.row 0 2) w1_0.length (rows BV w1_0)]),(0,.cells (Bl source))],9,[(0,w1_0.length)],1⟩) (js 17 j0 [(0,.bool false),(6,.bool true),(7,.bool false),(8,.bool false),(9,.bool false),(10,.bool false),(11,.bool true),(12,.bool false),(13,.bool true)]) (EO [] 3 (sb Wm 8342780) [.endb 1,.code (sb Wm 16295)] (Ab 300 (o1++[pn hb2,pk,KN (Pk y3.lines e0.name hb3),pb hb6,Ay (Ax (Ap hy12) 1 0),PN (GI hl13)])) (by kernel_rfl)) ?_ ?_ ?_ (fun v h=>by cases h;exact .outer (.GS k))
 rintro i5 w1_0 j5 hge hq
 exact CT (Ab 300 [pb (Kz hge)]) (by kernel_rfl) (hq (js 17 j5 [(16,.bool false)]))
 rintro i5 e5 w1_0 j5 r he5 hi5 mi5 k
 show G4  y3 e0 i5 e5 w1_0=some r→_
 unfold G4
 refine Ah ?_
 rintro ⟨y22a,y22b⟩ hy22
 dsimp only
 rintro ⟨⟩
 exact BJ Hd.Aa [fq (Al.B9 source.kids),fq (Al.B9 l13)] [bp (Al.pl e0),none,BP y3.Ai,AU y3.lines,AU y3.facts,br AF 0 2 y22b,bp (Al.pl source)] (Ab 300 [pb (GD hi5),Ct (BD .lost he5),Ay (B1 (BL hy22) 4 5 6 1 0),pi mi5]) (by kernel_rfl) (k (js 17 j5 [(16,.bool true)]))
 rintro w1_0_23 jx_23
 rintro ⟨⟩
 exact BJ Hd.Aa [fq (Al.B9 source.kids)] [none,BP y3.Ai,AU y3.lines,AU y3.facts,br AF 0 2 w1_0_23,bp (Al.pl source)] (Cc 300 [pi mi0]) (by kernel_rfl) (k jx_23)
 rintro ⟨⟩
 exact BJ Hd.Aa [fq (Al.B9 source.kids)] [none,BP y3.Ai,AU y3.lines,AU y3.facts,br AF 0 2 w1_0,bp (Al.pl source)] (Ab 300 (o1++[pn hb2,pi mi0])) (by kernel_rfl) (k (js 17 j0 [(6,.bool true),(7,.bool true)]))
 rintro w1_0_24 jx_24
 intro h
 have hE:=Option.some.inj h
 subst hE
 exact AG (v:=.sl (.row 0 2) w1_0_24.length (rows BV w1_0_24)) _ _ (Cc 300 []) (by kernel_rfl) .body (.wn (.s rfl .nil) (AF.B9 w1_0_24))
 subst hv
 intro h
 have hE:=Option.some.inj h
 subst hE
 exact AG (v:=.sl .full 1 [.sc (.int .i64 1),.sc (.int .i64 0)]) _ _ (Ab 300 [pn hb1,Ak (D9 hy1)]) (by kernel_rfl) .body (.wn (.d (.r (.r .nil)) (AF.eq [(⟨1,0⟩:Dg)]).symm .nil) (AF.B9 [(⟨1,0⟩:Dg)]))
 intro h
 have hE:=Option.some.inj h
 subst hE
 exact AG (v:=.sl .full 1 [.sc (.int .i64 1),.sc (.int .i64 0)]) _ _ (Ab 300 [pn hb1]) (by kernel_rfl) .body (.wn (.d (.r (.r .nil)) (AF.eq [(⟨1,0⟩:Dg)]).symm .nil) (AF.B9 [(⟨1,0⟩:Dg)]))
end Mo
end Go.Proofs.YtkfplcngmiljaaaGreatDoor
