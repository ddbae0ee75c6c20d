/- Part of a proof: see the last text. -/
import Derived.Test.YtkfplcngmiljaaaGreatDoorUoj
set_option linter.unusedVariables false
set_option linter.unusedSimpArgs false
namespace Go.Proofs.YtkfplcngmiljaaaGreatDoor
open AI Go
namespace Mo
set_option maxRecDepth 100000
set_option maxHeartbeats 4000000
noncomputable def tH:Code:=Bp Tryz.f40
theorem b40:Tryz.f40.body=some tH:=by kernel_rfl
noncomputable def EZ (Da:Nd→Int→Option Int) (limit:Int) (i0:Nat) (e0:Nd) (out5:Int):Option (Lp Int Int Int):=cond (Fx out5 limit) ((Da e0 (SM limit out5)).bind fun y1=>some (.nx (Bz out5 y1))) (some (.ex out5))
noncomputable def Fv (Da:Nd→Int→Option Int) (n:Nd) (limit:Int):Option Int:=cond (O0 limit 0) (some 0) ((IZ n.kids.length (A2 (fun i y x=>EZ Da limit i y x) (fun x=>x) (n.kids.drop 0) 0 1)).bind (JA (fun (out5_2:Int)=>some out5_2) (fun v=>some v)))
theorem Ld (Da:Nd→Int→Option Int) (MP:∀ {n:Nd} {limit:Int} {yR:Int},Da n limit=some yR→Pure P G 40 [.agg (BP n),.sc (.int .i64 limit)] (.sc (.int .i64 yR))) {n:Nd} {limit:Int} {yR:Int} (h:Fv Da n limit=some yR):Pure P G 40 [.agg (BP n),.sc (.int .i64 limit)] (.sc (.int .i64 yR)):=by
 unfold Fv at h
 refine D0 Hd.mixed Hd.Ac (AZ Tryz.func40 b40 ?_) (BI (Ay.Lc n) (BI rfl rfl)) rfl
 revert h
 refine Ai (fun hb1=>?_) fun hb1=>?_
 rintro ⟨⟩
 exact rS (Ae 300 [pb hb1]) (by kernel_rfl)
 refine GM (fun Q v=>GJ P Tryz.f40 0 Q (.sc (.int .i64 v))) (fun i0 (out5:Int) (j0:List Value)=>fr 33 [(1,.sc (.int .i64 limit)),(2,.ptr 0 0),(5,.sc (.int .i64 out5)),(6,.sc (.int .i64 ((i0:Nat):Int)))] [8,13,14,17,18] j0) (fun (out5:Int)=>⟨[(0,.cells (BP n))],1,[],0⟩) (fun (out5:Int) (jx:List Value)=>fr 33 [(5,.sc (.int .i64 out5))] [8,13,14,17,18] jx) (fun (out5:Int)=>⟨[(0,.cells (BP n))],1,[],0⟩) [.bool false] (GC [] 0 (sb tH 244) [.code (sb tH 31)] (Ae 300 [pb hb1]) (by kernel_rfl)) ?_ ?_ ?_ (fun v h=>by cases h;exact .outer .body)
 rintro i0 out5 j0 hge hq
 exact DQ (Ae 300 [pb (Mj hge)]) (by kernel_rfl) (hq [(jv j0 0),.bool false,.bool false,undef,.bool false])
 rintro i0 e0 out5 j0 r he0 hi0 mi0 k
 show EZ Da limit i0 e0 out5=some r→_
 unfold EZ
 refine Ai (fun hb2=>?_) fun hb2=>?_
 refine AD fun y1 hy1=>?_
 rintro ⟨⟩
 exact KE (Ae 300 [pb (Jb hi0),pb hb2,Em (DT .lost he0),pk,Bk (MP hy1),pk,pi mi0]) (by kernel_rfl) (k [(jv j0 0),.bool true,.bool true,.bool true,.bool true])
 rintro ⟨⟩
 exact DQ (Ae 300 [pb (Jb hi0),pb hb2]) (by kernel_rfl) (k [(jv j0 0),.bool true,.bool true,.bool false,.bool false])
 rintro out5_2 jx_2
 intro h
 have hE:=Option.some.inj h
 subst hE
 exact A5 _ _ (CX 300 []) (by kernel_rfl) .body .sc
noncomputable def CI:Nat→Nd→Int→Option Int
 | 0,_,_=>none
 | qn+1,n,limit=>Fv (CI qn) n limit
theorem L1:∀ qn:Nat,∀ {n:Nd} {limit:Int} {yR:Int},CI qn n limit=some yR→Pure P G 40 [.agg (BP n),.sc (.int .i64 limit)] (.sc (.int .i64 yR)):=by
 intro qn
 induction qn with
 | zero=>exact (fun h=>by simp only [CI] at h;cases h)
 | succ qn ih=>exact (fun h=>Ld (CI qn) ih (by rw [CI] at h;exact h))
noncomputable def G8 (n:Nd) (limit:Int):Option Int:=b6 (fun qn=>CI qn n limit)
theorem IL {n:Nd} {limit:Int} {yR:Int} (h:G8 n limit=some yR):Pure P G 40 [.agg (BP n),.sc (.int .i64 limit)] (.sc (.int .i64 yR)):=by
 obtain ⟨qn,h⟩:=cO h
 exact (L1 qn) h
noncomputable def B23:Code:=Bp Tryz.f23
theorem zJ:Tryz.f23.body=some B23:=by kernel_rfl
noncomputable def EK  (n:Nd) (limit:Int):Option Bool:=(G8 n (Bz limit 1)).bind fun y1=>cond (O0 y1 limit) (some true) (some false)
theorem Gv   {n:Nd} {limit:Int} {yR:Bool} (h:EK  n limit=some yR):Pure P G 23 [.agg (BP n),.sc (.int .i64 limit)] (.sc (.bool yR)):=by
 unfold EK at h
 refine D0 Hd.mixed Hd.Ac (AZ Tryz.func23 zJ ?_) (BI (Ay.Lc n) (BI rfl rfl)) rfl
 revert h
 refine AD fun y1 hy1=>?_
 refine Ai (fun hb1=>?_) fun hb1=>?_
 rintro ⟨⟩
 exact rS (Ae 300 [pk,Bk (IL hy1),pb hb1]) (by kernel_rfl)
 rintro ⟨⟩
 exact rS (Ae 300 [pk,Bk (IL hy1),pb hb1]) (by kernel_rfl)
noncomputable def zH:Code:=Bp Tryz.f12
theorem b12:Tryz.f12.body=some zH:=by kernel_rfl
noncomputable def FQ  (a:Nd) (b:Nd):Option Bool:=(EK a 400).bind fun y1=>cond y1 ((EK b 400).bind fun y2=>some y2) (some false)
theorem NA   {a:Nd} {b:Nd} {yR:Bool} (h:FQ  a b=some yR):Pure P G 12 [.agg (BP a),.agg (BP b)] (.sc (.bool yR)):=by
 unfold FQ at h
 refine D0 Hd.mixed Hd.Ac (AZ Tryz.func12 b12 ?_) (BI (Ay.Lc a) (BI (Ay.Lc b) rfl)) rfl
 revert h
 refine AD fun y1 hy1=>?_
 refine Ai (fun hv=>?_) fun hv=>?_
 subst hv
 refine AD fun y2 hy2=>?_
 intro h
 have hE:=Option.some.inj h
 subst hE
 exact rS (Ae 300 [Bk (Gv hy1),Bk (Gv hy2)]) (by kernel_rfl)
 subst hv
 rintro ⟨⟩
 exact rS (Ae 300 [Bk (Gv hy1)]) (by kernel_rfl)
noncomputable def B50:Code:=Bp Tryz.f50
theorem b50:Tryz.f50.body=some B50:=by kernel_rfl
noncomputable def A9  (c:Ck) (n:Nd) (depth:Int):Option (Bool×Int):=cond (O0 (Bz c.nodes 1) 2000) ((some (O0 depth 40)).bind fun q1=>some (q1,(Bz c.nodes 1))) (some (false,(Bz c.nodes 1)))
theorem Cb {c:Ck} {n:Nd} {depth:Int} {yR:Bool} {qc_nodesR:Int} (hS:Sound P G (.call 50 [.ptr 0 0,.agg (BP n),.sc (.int .i64 depth)] ⟨[(0,.cells (DR c))],1,[],0⟩ (.ret (.sc (.bool yR))) ⟨[(0,.cells [.sc (.int .i64 qc_nodesR)])],1,[],0⟩)) (u0:Nat) (hnb:([u0]:List Nat).Nodup:=by decide) (hnt:([]:List Nat).Nodup:=by decide):Cd.ok P G (.callU 50 [.ptr u0 0,.agg (BP n),.sc (.int .i64 depth)] (.ret (.sc (.bool yR))) [(u0,.cells (DR c))] [] [(u0,.cells [.sc (.int .i64 qc_nodesR)])] []) :=
 D7 (M:=[.cells (DR c)]) (M2:=[.cells [.sc (.int .i64 qc_nodesR)]]) (T:=[]) (T2:=[]) (k:=1) (j:=0) Hd.Ac _ _ _ _ hS rfl rfl rfl rfl rfl hnb hnt rfl rfl (.cons (.cells (.pl (Iw.pl c))) .nil) (.cons (.cells (.pl (BI rfl rfl))) .nil) (.cons (.ptr (by decide)) (.cons (.pl (Ay.Lc n)) (.cons (.pl rfl) .nil))) (.pl rfl) (fun e he=>by simp only [List.mem_singleton] at he;subst he;exact (.arg (.here .ptr)))
theorem BQ   {c:Ck} {n:Nd} {depth:Int} {yR:Bool} {qc_nodesR:Int} (h:A9  c n depth=some (yR,qc_nodesR)):Sound P G (.call 50 [.ptr 0 0,.agg (BP n),.sc (.int .i64 depth)] ⟨[(0,.cells (DR c))],1,[],0⟩ (.ret (.sc (.bool yR))) ⟨[(0,.cells [.sc (.int .i64 qc_nodesR)])],1,[],0⟩):=by
 unfold A9 at h
 refine D5 Hd.mixed (AZ Tryz.func50 b50 ?_)
 revert h
 refine Ai (fun hb1=>?_) fun hb1=>?_
 refine AD fun q1 hq1=>?_
 intro h
 have hE:=Option.some.inj h
 obtain ⟨hE0,hF0⟩:=Prod.mk.inj hE
 subst hE0 hF0
 exact Am Hd.Ac _ _ [] [none] (Ae 300 [pk,pb hb1,Sf (oA hq1 (.tmp 20) (.const (.int .i64 40)))]) (by kernel_rfl) .body
 intro h
 have hE:=Option.some.inj h
 obtain ⟨hE0,hF0⟩:=Prod.mk.inj hE
 subst hE0 hF0
 exact Am Hd.Ac _ _ [] [none] (Ae 300 [pk,pb hb1]) (by kernel_rfl) .body
noncomputable def vO:Code:=Bp Tryz.f82
theorem b82:Tryz.f82.body=some vO:=by kernel_rfl
noncomputable def Fs  (s2:(List Pc)) (i0:Nat) (e0:Pc) :Option (Lp Unit Unit Bool):=(s2[i0]?).bind fun x1=>cond (K8 e0 x1) (some (.nx ())) (some (.rt false))
noncomputable def EN  (s1:(List Pc)) (s2:(List Pc)):Option Bool:=cond (DM ((s1.length:Nat):Int) ((s2.length:Nat):Int)) ((IZ s1.length (A2 (fun i y x=>Fs  s2 i y ) (fun x=>()) (s1.drop 0) 0 ())).bind (JA (fun (_:Unit)=>some true) (fun v=>some v))) (some false)
theorem LR   {s1:(List Pc)} {s2:(List Pc)} {yR:Bool} (h:EN  s1 s2=some yR):Pure P G 82 [.sl .lost s1.length (rows J4 s1),.sl .lost s2.length (rows J4 s2)] (.sc (.bool yR)):=by
 unfold EN at h
 refine D0 Hd.mixed Hd.Ac (AZ Tryz.func82 b82 ?_) (BI (F6.DH s1) (BI (F6.DH s2) rfl)) rfl
 revert h
 refine Ai (fun hb1=>?_) fun hb1=>?_
 refine GM (fun Q v=>GJ P Tryz.f82 0 Q (.sc (.bool v))) (fun i0 (_:Unit) (j0:List Value)=>fr 26 [(0,.sl .lost s1.length (rows J4 s1)),(1,.sl .lost s2.length (rows J4 s2)),(12,.sc (.int .i64 ((s1.length:Nat):Int))),(13,.sc (.int .i64 ((i0:Nat):Int)))] [4,10,14,24] j0) (fun (_:Unit)=>⟨[],0,[],0⟩) (fun (_:Unit) (jx:List Value)=>fr 26 [] [4,10,14,24] jx) (fun (_:Unit)=>⟨[],0,[],0⟩) [.bool false,.bool false] (GC [] 0 (sb vO 116) [.code (sb vO 15)] (Ae 300 [pn hb1]) (by kernel_rfl)) ?_ ?_ ?_ (fun v h=>by cases h;exact .outer .body)
 rintro i0 ⟨⟩ j0 hge hq
 exact DQ (Ae 300 [pb (Mj hge)]) (by kernel_rfl) (hq (js 4 j0 [(2,.bool false)]))
 rintro i0 e0 ⟨⟩ j0 r he0 hi0 mi0 k
 show Fs  s2 i0 e0 =some r→_
 unfold Fs
 refine AD fun x1 hx1=>?_
 refine Ai (fun hb2=>?_) fun hb2=>?_
 rintro ⟨⟩
 exact KE (Ae 300 [pb (Jb hi0),Em (SS .lost he0),Em (SS .lost hx1),Sf (dT hb2 (.tmp 19) (.tmp 23)),pi mi0]) (by kernel_rfl) (k (js 4 j0 [(2,.bool true),(3,.bool false)]))
 rintro ⟨⟩
 exact A5 _ _ (Ae 300 [pb (Jb hi0),Em (SS .lost he0),Em (SS .lost hx1),Sf (dT hb2 (.tmp 19) (.tmp 23))]) (by kernel_rfl) (.I5 k) .sc
 rintro ⟨⟩ jx_2
 intro h
 have hE:=Option.some.inj h
 subst hE
 exact A5 _ _ (CX 300 []) (by kernel_rfl) .body .sc
 rintro ⟨⟩
 exact rS (Ae 300 [pn hb1]) (by kernel_rfl)
noncomputable def z8:Code:=Bp Tryz.f51
theorem b51:Tryz.f51.body=some z8:=by kernel_rfl
noncomputable def AT  (n:Nd) (fields:Nd):Option Bool:=cond (Cc n.name.data.toList fields.name.data.toList) (cond (Cc n.unit.data.toList fields.unit.data.toList) (cond (DM n.n fields.n) (cond (DM n.fr fields.fr) (cond (DM n.to fields.to) (cond (DM n.known fields.known) (cond (DM n.tab.den fields.tab.den) ((EN n.tab.ps fields.tab.ps).bind fun y1=>some y1) (some false)) (some false)) (some false)) (some false)) (some false)) (some false)) (some false)
theorem AQ   {n:Nd} {fields:Nd} {yR:Bool} (h:AT  n fields=some yR):Pure P G 51 [.agg (BP n),.agg (BP fields)] (.sc (.bool yR)):=by
 unfold AT at h
 refine D0 Hd.mixed Hd.Ac (AZ Tryz.func51 b51 ?_) (BI (Ay.Lc n) (BI (Ay.Lc fields) rfl)) rfl
 revert h
 refine Ai (fun hb1=>?_) fun hb1=>?_
 refine Ai (fun hb2=>?_) fun hb2=>?_
 let o1:List (PC P G):=[pn hb1,pn hb2]
 refine Ai (fun hb3=>?_) fun hb3=>?_
 refine Ai (fun hb4=>?_) fun hb4=>?_
 refine Ai (fun hb5=>?_) fun hb5=>?_
 refine Ai (fun hb6=>?_) fun hb6=>?_
 refine Ai (fun hb7=>?_) fun hb7=>?_
 refine AD fun y1 hy1=>?_
 intro h
 have hE:=Option.some.inj h
 subst hE
 exact rS (Ae 300 (o1++[pn hb3,pn hb4,pn hb5,pn hb6,pb hb7,Bk (LR hy1)])) (by kernel_rfl)
 rintro ⟨⟩
 exact rS (Ae 300 (o1++[pn hb3,pn hb4,pn hb5,pn hb6,pb hb7])) (by kernel_rfl)
 rintro ⟨⟩
 exact rS (Ae 300 (o1++[pn hb3,pn hb4,pn hb5,pn hb6])) (by kernel_rfl)
 rintro ⟨⟩
 exact rS (Ae 300 (o1++[pn hb3,pn hb4,pn hb5])) (by kernel_rfl)
 rintro ⟨⟩
 exact rS (Ae 300 (o1++[pn hb3,pn hb4])) (by kernel_rfl)
 rintro ⟨⟩
 exact rS (Ae 300 (o1++[pn hb3])) (by kernel_rfl)
 rintro ⟨⟩
 exact rS (Ae 300 [pn hb1,pn hb2]) (by kernel_rfl)
 rintro ⟨⟩
 exact rS (Ae 300 [pn hb1]) (by kernel_rfl)
noncomputable def iX:Code:=Bp Tryz.f113
theorem vP:Tryz.f113.body=some iX:=by kernel_rfl
noncomputable def DP   (i0:Nat) (e0:UInt8) :Option (Lp Unit Unit Bool):=cond (Fx ((e0.toNat:Nat):Int) 65) (some (.rt false)) (cond (Fx 90 ((e0.toNat:Nat):Int)) (some (.rt false)) (some (.nx ())))
noncomputable def Dl  (text:ByteArray):Option Bool:=cond (DM ((text.data.toList.length:Nat):Int) 3) ((IZ text.data.toList.length (A2 (fun i y x=>DP   i y ) (fun x=>()) (text.data.toList.drop 0) 0 ())).bind (JA (fun (_:Unit)=>some true) (fun v=>some v))) (some false)
theorem Jp   {text:ByteArray} {yR:Bool} (h:Dl  text=some yR):Pure P G 113 [.sc (.string text)] (.sc (.bool yR)):=by
 unfold Dl at h
 refine D0 Hd.mixed Hd.Ac (AZ Tryz.func113 vP ?_) (BI rfl rfl) rfl
 revert h
 refine Ai (fun hb1=>?_) fun hb1=>?_
 refine GM (fun Q v=>GJ P Tryz.f113 0 Q (.sc (.bool v))) (fun i0 (_:Unit) (j0:List Value)=>fr 23 [(0,.sc (.string text)),(8,.sc (.int .i64 ((text.data.toList.length:Nat):Int))),(9,.sc (.int .i64 ((i0:Nat):Int)))] [2,6,10,15,16,20,21] j0) (fun (_:Unit)=>⟨[],0,[],0⟩) (fun (_:Unit) (jx:List Value)=>fr 23 [] [2,6,10,15,16,20,21] jx) (fun (_:Unit)=>⟨[],0,[],0⟩) [.bool false,.bool false] (GC [] 0 (sb iX 116) [.code (sb iX 15)] (Ae 300 [pn hb1]) (by kernel_rfl)) ?_ ?_ ?_ (fun v h=>by cases h;exact .outer .body)
 rintro i0 ⟨⟩ j0 hge hq
 exact DQ (Ae 300 [pb (Mj hge)]) (by kernel_rfl) (hq (js 7 j0 [(2,.bool false)]))
 rintro i0 e0 ⟨⟩ j0 r he0 hi0 mi0 k
 show DP   i0 e0 =some r→_
 unfold DP
 refine Ai (fun hb2=>?_) fun hb2=>?_
 rintro ⟨⟩
 exact A5 _ _ (Ae 300 [pb (Jb hi0),YJ (N4 he0),pb hb2]) (by kernel_rfl) (.I5 k) .sc
 refine Ai (fun hb3=>?_) fun hb3=>?_
 rintro ⟨⟩
 exact A5 _ _ (Ae 300 [pb (Jb hi0),YJ (N4 he0),pb hb2,YJ (N4 he0),pb hb3]) (by kernel_rfl) (.I5 k) .sc
 rintro ⟨⟩
 exact KE (Ae 300 [pb (Jb hi0),YJ (N4 he0),pb hb2,YJ (N4 he0),pb hb3,pi mi0]) (by kernel_rfl) (k [(jv j0 0),(jv j0 1),.bool true,.bool false,.bool false,.bool false,.bool false])
 rintro ⟨⟩ jx_1
 intro h
 have hE:=Option.some.inj h
 subst hE
 exact A5 _ _ (CX 300 []) (by kernel_rfl) .body .sc
 rintro ⟨⟩
 exact rS (Ae 300 [pn hb1]) (by kernel_rfl)
noncomputable def B76:Code:=Bp Tryz.f76
theorem b76:Tryz.f76.body=some B76:=by kernel_rfl
noncomputable def B5  (text:ByteArray):Option Bool:=cond (Cc text.data.toList A8.data.toList) (some true) (cond (Cc text.data.toList CH.data.toList) (some true) (cond (Cc text.data.toList FG.data.toList) (some true) ((Dl text).bind fun y1=>some y1)))
theorem Cn   {text:ByteArray} {yR:Bool} (h:B5  text=some yR):Pure P G 76 [.sc (.string text)] (.sc (.bool yR)):=by
 unfold B5 at h
 refine D0 Hd.mixed Hd.Ac (AZ Tryz.func76 b76 ?_) (BI rfl rfl) rfl
 revert h
 refine Ai (fun hb1=>?_) fun hb1=>?_
 rintro ⟨⟩
 exact rS (Ae 300 [pb hb1]) (by kernel_rfl)
 refine Ai (fun hb2=>?_) fun hb2=>?_
 rintro ⟨⟩
 exact rS (Ae 300 [pb hb1,pb hb2]) (by kernel_rfl)
 refine Ai (fun hb3=>?_) fun hb3=>?_
 rintro ⟨⟩
 exact rS (Ae 300 [pb hb1,pb hb2,pb hb3]) (by kernel_rfl)
 refine AD fun y1 hy1=>?_
 intro h
 have hE:=Option.some.inj h
 subst hE
 exact rS (Ae 300 [pb hb1,pb hb2,pb hb3,Bk (Jp hy1)]) (by kernel_rfl)
noncomputable def u7:Code:=Bp Tryz.f114
theorem tL:Tryz.f114.body=some u7:=by kernel_rfl
noncomputable def D4  (word:ByteArray):Option Bool:=cond (Cc word.data.toList dF.data.toList) (some true) (cond (Cc word.data.toList fB.data.toList) (some true) (cond (Cc word.data.toList Rk.data.toList) (some true) (cond (Cc word.data.toList pX.data.toList) (some true) (cond (Cc word.data.toList dV.data.toList) (some true) (cond (Cc word.data.toList eB.data.toList) (some true) (cond (Cc word.data.toList yN.data.toList) (some true) (cond (Cc word.data.toList Yu.data.toList) (some true) (cond (Cc word.data.toList eL.data.toList) (some true) (cond (Cc word.data.toList TQ.data.toList) (some true) (cond (Cc word.data.toList T6.data.toList) (some true) (cond (Cc word.data.toList A8.data.toList) (some true) (cond (Cc word.data.toList CH.data.toList) (some true) (cond (Cc word.data.toList FG.data.toList) (some true) (cond (Cc word.data.toList rO.data.toList) (some true) (cond (Cc word.data.toList eK.data.toList) (some true) (cond (Cc word.data.toList TN.data.toList) (some true) (cond (Cc word.data.toList X2.data.toList) (some true) (cond (Cc word.data.toList cW.data.toList) (some true) (cond (Cc word.data.toList mW.data.toList) (some true) (cond (Cc word.data.toList Nh.data.toList) (some true) (cond (Cc word.data.toList n8.data.toList) (some true) (cond (Cc word.data.toList nA.data.toList) (some true) (cond (Cc word.data.toList dC.data.toList) (some true) (cond (Cc word.data.toList W2.data.toList) (some true) (cond (Cc word.data.toList oC.data.toList) (some true) (cond (Cc word.data.toList KD.data.toList) (some true) (cond (Cc word.data.toList bJ.data.toList) (some true) (cond (Cc word.data.toList Pj.data.toList) (some true) (cond (Cc word.data.toList T4.data.toList) (some true) (cond (Cc word.data.toList J2.data.toList) (some true) (cond (Cc word.data.toList Gf.data.toList) (some true) (cond (Cc word.data.toList XB.data.toList) (some true) (some false)))))))))))))))))))))))))))))))))
theorem GY   {word:ByteArray} {yR:Bool} (h:D4  word=some yR):Pure P G 114 [.sc (.string word)] (.sc (.bool yR)):=by
 unfold D4 at h
 refine D0 Hd.mixed Hd.Ac (AZ Tryz.func114 tL ?_) (BI rfl rfl) rfl
 revert h
 refine Ai (fun hb1=>?_) fun hb1=>?_
 rintro ⟨⟩
 exact rS (Ae 300 [pb hb1]) (by kernel_rfl)
 let o1:List (PC P G):=[pb hb1]
 refine Ai (fun hb2=>?_) fun hb2=>?_
 rintro ⟨⟩
 exact rS (Ae 300 (o1++[pb hb2])) (by kernel_rfl)
 let o2:List (PC P G):=o1++[pb hb2]
 refine Ai (fun hb3=>?_) fun hb3=>?_
 rintro ⟨⟩
 exact rS (Ae 300 (o2++[pb hb3])) (by kernel_rfl)
 let o3:List (PC P G):=o2++[pb hb3]
 refine Ai (fun hb4=>?_) fun hb4=>?_
 rintro ⟨⟩
 exact rS (Ae 300 (o3++[pb hb4])) (by kernel_rfl)
 let o4:List (PC P G):=o3++[pb hb4]
 refine Ai (fun hb5=>?_) fun hb5=>?_
 rintro ⟨⟩
 exact rS (Ae 300 (o4++[pb hb5])) (by kernel_rfl)
 let o5:List (PC P G):=o4++[pb hb5]
 refine Ai (fun hb6=>?_) fun hb6=>?_
 rintro ⟨⟩
 exact rS (Ae 300 (o5++[pb hb6])) (by kernel_rfl)
 let o6:List (PC P G):=o5++[pb hb6]
 refine Ai (fun hb7=>?_) fun hb7=>?_
 rintro ⟨⟩
 exact rS (Ae 300 (o6++[pb hb7])) (by kernel_rfl)
 let o7:List (PC P G):=o6++[pb hb7]
 refine Ai (fun hb8=>?_) fun hb8=>?_
 rintro ⟨⟩
 exact rS (Ae 300 (o7++[pb hb8])) (by kernel_rfl)
 let o8:List (PC P G):=o7++[pb hb8]
 refine Ai (fun hb9=>?_) fun hb9=>?_
 rintro ⟨⟩
 exact rS (Ae 300 (o8++[pb hb9])) (by kernel_rfl)
 let o9:List (PC P G):=o8++[pb hb9]
 refine Ai (fun hb10=>?_) fun hb10=>?_
 rintro ⟨⟩
 exact rS (Ae 300 (o9++[pb hb10])) (by kernel_rfl)
 let o10:List (PC P G):=o9++[pb hb10]
 refine Ai (fun hb11=>?_) fun hb11=>?_
 rintro ⟨⟩
 exact rS (Ae 300 (o10++[pb hb11])) (by kernel_rfl)
 let o11:List (PC P G):=o10++[pb hb11]
 refine Ai (fun hb12=>?_) fun hb12=>?_
 rintro ⟨⟩
 exact rS (Ae 300 (o11++[pb hb12])) (by kernel_rfl)
 let o12:List (PC P G):=o11++[pb hb12]
 refine Ai (fun hb13=>?_) fun hb13=>?_
 rintro ⟨⟩
 exact rS (Ae 300 (o12++[pb hb13])) (by kernel_rfl)
 let o13:List (PC P G):=o12++[pb hb13]
 refine Ai (fun hb14=>?_) fun hb14=>?_
 rintro ⟨⟩
 exact rS (Ae 300 (o13++[pb hb14])) (by kernel_rfl)
 let o14:List (PC P G):=o13++[pb hb14]
 refine Ai (fun hb15=>?_) fun hb15=>?_
 rintro ⟨⟩
 exact rS (Ae 300 (o14++[pb hb15])) (by kernel_rfl)
 let o15:List (PC P G):=o14++[pb hb15]
 refine Ai (fun hb16=>?_) fun hb16=>?_
 rintro ⟨⟩
 exact rS (Ae 300 (o15++[pb hb16])) (by kernel_rfl)
 let o16:List (PC P G):=o15++[pb hb16]
 refine Ai (fun hb17=>?_) fun hb17=>?_
 rintro ⟨⟩
 exact rS (Ae 300 (o16++[pb hb17])) (by kernel_rfl)
 let o17:List (PC P G):=o16++[pb hb17]
 refine Ai (fun hb18=>?_) fun hb18=>?_
 rintro ⟨⟩
 exact rS (Ae 300 (o17++[pb hb18])) (by kernel_rfl)
 let o18:List (PC P G):=o17++[pb hb18]
 refine Ai (fun hb19=>?_) fun hb19=>?_
 rintro ⟨⟩
 exact rS (Ae 300 (o18++[pb hb19])) (by kernel_rfl)
 let o19:List (PC P G):=o18++[pb hb19]
 refine Ai (fun hb20=>?_) fun hb20=>?_
 rintro ⟨⟩
 exact rS (Ae 300 (o19++[pb hb20])) (by kernel_rfl)
 let o20:List (PC P G):=o19++[pb hb20]
 refine Ai (fun hb21=>?_) fun hb21=>?_
 rintro ⟨⟩
 exact rS (Ae 300 (o20++[pb hb21])) (by kernel_rfl)
 let o21:List (PC P G):=o20++[pb hb21]
 refine Ai (fun hb22=>?_) fun hb22=>?_
 rintro ⟨⟩
 exact rS (Ae 300 (o21++[pb hb22])) (by kernel_rfl)
 let o22:List (PC P G):=o21++[pb hb22]
 refine Ai (fun hb23=>?_) fun hb23=>?_
 rintro ⟨⟩
 exact rS (Ae 300 (o22++[pb hb23])) (by kernel_rfl)
 let o23:List (PC P G):=o22++[pb hb23]
 refine Ai (fun hb24=>?_) fun hb24=>?_
 rintro ⟨⟩
 exact rS (Ae 300 (o23++[pb hb24])) (by kernel_rfl)
 let oJ:List (PC P G):=o23++[pb hb24]
 refine Ai (fun hb25=>?_) fun hb25=>?_
 rintro ⟨⟩
 exact rS (Ae 300 (oJ++[pb hb25])) (by kernel_rfl)
 refine Ai (fun hb26=>?_) fun hb26=>?_
 rintro ⟨⟩
 exact rS (Ae 300 (oJ++[pb hb25,pb hb26])) (by kernel_rfl)
 let o25:List (PC P G):=oJ++[pb hb25,pb hb26]
 refine Ai (fun hb27=>?_) fun hb27=>?_
 rintro ⟨⟩
 exact rS (Ae 300 (o25++[pb hb27])) (by kernel_rfl)
 refine Ai (fun hb28=>?_) fun hb28=>?_
 rintro ⟨⟩
 exact rS (Ae 300 (o25++[pb hb27,pb hb28])) (by kernel_rfl)
 let o26:List (PC P G):=o25++[pb hb27,pb hb28]
 refine Ai (fun hb29=>?_) fun hb29=>?_
 rintro ⟨⟩
 exact rS (Ae 300 (o26++[pb hb29])) (by kernel_rfl)
 refine Ai (fun hb30=>?_) fun hb30=>?_
 rintro ⟨⟩
 exact rS (Ae 300 (o26++[pb hb29,pb hb30])) (by kernel_rfl)
 refine Ai (fun hb31=>?_) fun hb31=>?_
 rintro ⟨⟩
 exact rS (Ae 300 (o26++[pb hb29,pb hb30,pb hb31])) (by kernel_rfl)
 refine Ai (fun hb32=>?_) fun hb32=>?_
 rintro ⟨⟩
 exact rS (Ae 300 (o26++[pb hb29,pb hb30,pb hb31,pb hb32])) (by kernel_rfl)
 refine Ai (fun hb33=>?_) fun hb33=>?_
 rintro ⟨⟩
 exact rS (Ae 300 (o26++[pb hb29,pb hb30,pb hb31,pb hb32,pb hb33])) (by kernel_rfl)
 rintro ⟨⟩
 exact rS (Ae 300 (o26++[pb hb29,pb hb30,pb hb31,pb hb32,pb hb33])) (by kernel_rfl)
noncomputable def uS:Code:=Bp Tryz.f77
theorem b77:Tryz.f77.body=some uS:=by kernel_rfl
noncomputable def Ds   (i0:Nat) (e0:UInt8) :Option (Lp Unit Unit Bool):=cond (Fx ((e0.toNat:Nat):Int) 97) (cond (Fx ((e0.toNat:Nat):Int) 48) (some (.rt false)) (cond (Fx 57 ((e0.toNat:Nat):Int)) (cond (DM ((e0.toNat:Nat):Int) 95) (some (.nx ())) (some (.rt false))) (some (.nx ())))) (cond (Fx 122 ((e0.toNat:Nat):Int)) (some (.rt false)) (some (.nx ())))
noncomputable def BL  (text:ByteArray):Option Bool:=cond (Cc text.data.toList ByteArray.empty.data.toList) (some false) (cond (Fx 16 ((text.data.toList.length:Nat):Int)) (some false) ((text.data.toList[0]?).bind fun c1=>cond (Fx ((c1.toNat:Nat):Int) 97) (some false) (cond (Fx 122 ((c1.toNat:Nat):Int)) (some false) ((D4 text).bind fun y2=>cond y2 (some false) ((IZ text.data.toList.length (A2 (fun i y x=>Ds   i y ) (fun x=>()) (text.data.toList.drop 0) 0 ())).bind (JA (fun (_:Unit)=>some true) (fun v=>some v)))))))
theorem C2   {text:ByteArray} {yR:Bool} (h:BL  text=some yR):Pure P G 77 [.sc (.string text)] (.sc (.bool yR)):=by
 unfold BL at h
 refine D0 Hd.mixed Hd.Ac (AZ Tryz.func77 b77 ?_) (BI rfl rfl) rfl
 revert h
 refine Ai (fun hb1=>?_) fun hb1=>?_
 rintro ⟨⟩
 exact rS (Ae 300 [pb hb1]) (by kernel_rfl)
 refine Ai (fun hb2=>?_) fun hb2=>?_
 rintro ⟨⟩
 exact rS (Ae 300 [pb hb1,pb hb2]) (by kernel_rfl)
 refine AD fun c1 hc1=>?_
 let o1:List (PC P G):=[pb hb1,pb hb2,YJ (N4 hc1)]
 refine Ai (fun hb3=>?_) fun hb3=>?_
 rintro ⟨⟩
 exact rS (Ae 300 (o1++[pb hb3])) (by kernel_rfl)
 refine Ai (fun hb4=>?_) fun hb4=>?_
 rintro ⟨⟩
 exact rS (Ae 300 (o1++[pb hb3,YJ (N4 hc1),pb hb4])) (by kernel_rfl)
 refine AD fun y2 hy2=>?_
 refine Ai (fun hv=>?_) fun hv=>?_
 subst hv
 rintro ⟨⟩
 exact rS (Ae 300 (o1++[pb hb3,YJ (N4 hc1),pb hb4,Bk (GY hy2)])) (by kernel_rfl)
 subst hv
 refine GM (fun Q v=>GJ P Tryz.f77 0 Q (.sc (.bool v))) (fun i0 (_:Unit) (j0:List Value)=>fr 53 [(0,.sc (.string text)),(27,.sc (.int .i64 ((text.data.toList.length:Nat):Int))),(28,.sc (.int .i64 ((i0:Nat):Int)))] [2,6,7,10,11,12,15,16,17,20,21,22,24,25,29,35,36,38,39,40,42,43,45,46,47,48,50,51] j0) (fun (_:Unit)=>⟨[],0,[],0⟩) (fun (_:Unit) (jx:List Value)=>fr 53 [] [2,6,7,10,11,12,15,16,17,20,21,22,24,25,29,35,36,38,39,40,42,43,45,46,47,48,50,51] jx) (fun (_:Unit)=>⟨[],0,[],0⟩) [.bool false,.bool false,.bool false,.bool false,.bool false,.bool false,.bool false,.bool false,.bool false,.bool false,.bool false,.bool false,.bool false,.bool false] (GC [] 0 (sb uS 116) [.code (sb uS 15)] (Ae 300 (o1++[pb hb3,YJ (N4 hc1),pb hb4,Bk (GY hy2)])) (by kernel_rfl)) ?_ ?_ ?_ (fun v h=>by cases h;exact .outer .body)
 rintro i0 ⟨⟩ j0 hge hq
 exact DQ (Ae 300 [pb (Mj hge)]) (by kernel_rfl) (hq (js 28 j0 [(14,.bool false)]))
 rintro i0 e0 ⟨⟩ j0 r he0 hi0 mi0 k
 show Ds   i0 e0 =some r→_
 unfold Ds
 let o2:List (PC P G):=[pb (Jb hi0),YJ (N4 he0)]
 refine Ai (fun hb5=>?_) fun hb5=>?_
 refine Ai (fun hb6=>?_) fun hb6=>?_
 rintro ⟨⟩
 exact A5 _ _ (Ae 300 (o2++[pb hb5,pb hb6,pn (B:=DM ((e0.toNat:Nat):Int) 95) (b:=false) (fG (by have:=Ly hb5;have:=Ly hb6;omega))])) (by kernel_rfl) (.I5 k) .sc
 refine Ai (fun hb7=>?_) fun hb7=>?_
 refine Ai (fun hb8=>?_) fun hb8=>?_
 rintro ⟨⟩
 exact KE (Ae 300 (o2++[pb hb5,pb hb6,pb hb7,pn hb8,pi mi0])) (by kernel_rfl) (k (js 28 j0 [(14,.bool true),(15,.bool true),(16,.bool true),(17,undef),(18,.bool true),(19,.bool true),(20,.bool false),(21,.bool false),(22,.bool true),(23,.bool true),(24,.bool true),(25,.bool true),(26,.bool false),(27,.bool false)]))
 rintro ⟨⟩
 exact A5 _ _ (Ae 300 (o2++[pb hb5,pb hb6,pb hb7,pn hb8])) (by kernel_rfl) (.I5 k) .sc
 rintro ⟨⟩
 exact KE (Ae 300 (o2++[pb hb5,pb hb6,pb hb7,pi mi0])) (by kernel_rfl) (k (js 28 j0 [(14,.bool true),(15,.bool true),(16,.bool true),(17,undef),(18,.bool true),(19,.bool true),(20,.bool false),(21,.bool false),(22,.bool false),(23,.bool false),(24,.bool false),(25,.bool false),(26,undef),(27,.bool false)]))
 refine Ai (fun hb9=>?_) fun hb9=>?_
 rintro ⟨⟩
 exact A5 _ _ (Ae 300 (o2++[pb hb5,pb hb9,pb (B:=Fx ((e0.toNat:Nat):Int) 48) (b:=false) (cZ (by have:=XU hb5;have:=Ly hb9;omega)),pb (B:=Fx 57 ((e0.toNat:Nat):Int)) (b:=true) (V8 (by have:=XU hb5;have:=Ly hb9;omega)),pn (B:=DM ((e0.toNat:Nat):Int) 95) (b:=false) (fG (by have:=XU hb5;have:=Ly hb9;omega))])) (by kernel_rfl) (.I5 k) .sc
 rintro ⟨⟩
 exact KE (Ae 300 (o2++[pb hb5,pb hb9,pi mi0])) (by kernel_rfl) (k (js 28 j0 [(14,.bool true),(15,.bool false),(16,.bool false),(17,.bool false),(18,.bool false),(19,.bool false),(20,undef),(21,undef),(22,undef),(23,undef),(24,.bool false),(25,.bool false),(26,undef),(27,.bool false)]))
 rintro ⟨⟩ jx_3
 intro h
 have hE:=Option.some.inj h
 subst hE
 exact A5 _ _ (CX 300 []) (by kernel_rfl) .body .sc
noncomputable def B78:Code:=Bp Tryz.f78
theorem zQ:Tryz.f78.body=some B78:=by kernel_rfl
noncomputable def BB  (n:Int):Option Bool:=cond (O0 1 n) (cond (O0 n 1000000) (some true) (some false)) (some false)
theorem CU   {n:Int} {yR:Bool} (h:BB  n=some yR):Pure P G 78 [.sc (.int .i64 n)] (.sc (.bool yR)):=by
 unfold BB at h
 refine D0 Hd.mixed Hd.Ac (AZ Tryz.func78 zQ ?_) (BI rfl rfl) rfl
 revert h
 refine Ai (fun hb1=>?_) fun hb1=>?_
 refine Ai (fun hb2=>?_) fun hb2=>?_
 rintro ⟨⟩
 exact rS (Ae 300 [pb hb1,pb hb2]) (by kernel_rfl)
 rintro ⟨⟩
 exact rS (Ae 300 [pb hb1,pb hb2]) (by kernel_rfl)
 rintro ⟨⟩
 exact rS (Ae 300 [pb hb1]) (by kernel_rfl)
noncomputable def B79:Code:=Bp Tryz.f79
theorem b79:Tryz.f79.body=some B79:=by kernel_rfl
noncomputable def CE  (word:ByteArray):Option Bool:=cond (Cc word.data.toList KD.data.toList) (some true) (cond (Cc word.data.toList bJ.data.toList) (some true) (cond (Cc word.data.toList Pj.data.toList) (some true) (cond (Cc word.data.toList T4.data.toList) (some true) (some false))))
theorem H3   {word:ByteArray} {yR:Bool} (h:CE  word=some yR):Pure P G 79 [.sc (.string word)] (.sc (.bool yR)):=by
 unfold CE at h
 refine D0 Hd.mixed Hd.Ac (AZ Tryz.func79 b79 ?_) (BI rfl rfl) rfl
 revert h
 refine Ai (fun hb1=>?_) fun hb1=>?_
 rintro ⟨⟩
 exact rS (Ae 300 [pb hb1]) (by kernel_rfl)
 refine Ai (fun hb2=>?_) fun hb2=>?_
 rintro ⟨⟩
 exact rS (Ae 300 [pb hb1,pb hb2]) (by kernel_rfl)
 refine Ai (fun hb3=>?_) fun hb3=>?_
 rintro ⟨⟩
 exact rS (Ae 300 [pb hb1,pb hb2,pb hb3]) (by kernel_rfl)
 refine Ai (fun hb4=>?_) fun hb4=>?_
 rintro ⟨⟩
 exact rS (Ae 300 [pb hb1,pb hb2,pb hb3,pb hb4]) (by kernel_rfl)
 rintro ⟨⟩
 exact rS (Ae 300 [pb hb1,pb hb2,pb hb3,pb hb4]) (by kernel_rfl)
noncomputable def uD:Code:=Bp Tryz.f81
theorem zZ:Tryz.f81.body=some uD:=by kernel_rfl
noncomputable def De  (f:Fn) (i0:Nat) (e0:Pc) :Option (Lp Unit Unit Bool):=cond (Fx 999999999999 e0.fr) (some (.rt false)) (cond (Fx 0 ((i0:Nat):Int)) ((UY f.ps (SM ((i0:Nat):Int) 1)).bind fun x3=>cond (O0 e0.fr x3.fr) (some (.rt false)) ((S2 e0.att f.den).bind fun z4=>cond (DM z4 0) (cond (Fx (Us 999999999999 f.den) e0.att) (some (.rt false)) (cond (Fx e0.att (Us (-999999999999) f.den)) (some (.rt false)) (cond (Fx 1000000 e0.slope) (some (.rt false)) (cond (Fx e0.slope (-1000000)) (some (.rt false)) (some (.nx ())))))) (some (.rt false)))) ((S2 e0.att f.den).bind fun z5=>cond (DM z5 0) (cond (Fx (Us 999999999999 f.den) e0.att) (some (.rt false)) (cond (Fx e0.att (Us (-999999999999) f.den)) (some (.rt false)) (cond (Fx 1000000 e0.slope) (some (.rt false)) (cond (Fx e0.slope (-1000000)) (some (.rt false)) (some (.nx ())))))) (some (.rt false))))
noncomputable def CO  (f:Fn):Option Bool:=(BB f.den).bind fun y1=>cond y1 (cond (Fx ((f.ps.length:Nat):Int) 1) (some false) (cond (Fx 64 ((f.ps.length:Nat):Int)) (some false) ((f.ps[0]?).bind fun x2=>cond (DM x2.fr 0) ((IZ f.ps.length (A2 (fun i y x=>De  f i y ) (fun x=>()) (f.ps.drop 0) 0 ())).bind (JA (fun (_:Unit)=>some true) (fun v=>some v))) (some false)))) (some false)
theorem DN   {f:Fn} {yR:Bool} (h:CO  f=some yR):Pure P G 81 [.agg (YV f)] (.sc (.bool yR)):=by
 unfold CO at h
 refine D0 Hd.mixed Hd.Ac (AZ Tryz.func81 zZ ?_) (BI (XG.Lc f) rfl) rfl
 revert h
 refine AD fun y1 hy1=>?_
 let o1:List (PC P G):=[Bk (CU hy1)]
 refine Ai (fun hv=>?_) fun hv=>?_
 subst hv
 refine Ai (fun hb1=>?_) fun hb1=>?_
 rintro ⟨⟩
 exact rS (Ae 300 (o1++[pb hb1])) (by kernel_rfl)
 refine Ai (fun hb2=>?_) fun hb2=>?_
 rintro ⟨⟩
 exact rS (Ae 300 (o1++[pb hb1,pb hb2])) (by kernel_rfl)
 refine AD fun x2 hx2=>?_
 refine Ai (fun hb3=>?_) fun hb3=>?_
 refine GM (fun Q v=>GJ P Tryz.f81 0 Q (.sc (.bool v))) (fun i0 (_:Unit) (j0:List Value)=>fr 87 [(1,.ptr 0 0),(30,.sl .lost f.ps.length (rows J4 f.ps)),(31,.sc (.int .i64 ((f.ps.length:Nat):Int))),(32,.sc (.int .i64 ((i0:Nat):Int)))] [2,7,8,9,13,14,15,19,20,21,27,28,33,39,40,42,43,53,54,55,61,62,68,69,70,76,77,80,81,84,85] j0) (fun (_:Unit)=>⟨[(0,.cells (YV f))],1,[],0⟩) (fun (_:Unit) (jx:List Value)=>fr 87 [] [2,7,8,9,13,14,15,19,20,21,27,28,33,39,40,42,43,53,54,55,61,62,68,69,70,76,77,80,81,84,85] jx) (fun (_:Unit)=>⟨[(0,.cells (YV f))],1,[],0⟩) [.bool false,.bool true,.bool false,.bool false,.bool false,.bool false,.bool false,.bool false,.bool false,.bool false,.bool false,.bool false] (GC [] 0 (sb uD 116) [.code (sb uD 15)] (Ae 300 (o1++[pb hb1,pb hb2,Em (SS .lost hx2),pn hb3])) (by kernel_rfl)) ?_ ?_ ?_ (fun v h=>by cases h;exact .outer .body)
 rintro i0 ⟨⟩ j0 hge hq
 exact DQ (Ae 300 [pb (Mj hge)]) (by kernel_rfl) (hq (js 31 j0 [(12,.bool false)]))
 rintro i0 e0 ⟨⟩ j0 r he0 hi0 mi0 k
 show De  f i0 e0 =some r→_
 unfold De
 let o2:List (PC P G):=[pb (Jb hi0),Em (SS .lost he0)]
 refine Ai (fun hb4=>?_) fun hb4=>?_
 rintro ⟨⟩
 exact A5 _ _ (Ae 300 (o2++[pb hb4])) (by kernel_rfl) (.I5 k) .sc
 let o3:List (PC P G):=o2++[pb hb4]
 refine Ai (fun hb5=>?_) fun hb5=>?_
 refine AD fun x3 hx3=>?_
 let o4:List (PC P G):=o3++[pb hb5,pk,Em (qX .lost hx3)]
 refine Ai (fun hb6=>?_) fun hb6=>?_
 rintro ⟨⟩
 exact A5 _ _ (Ae 300 (o4++[pb hb6])) (by kernel_rfl) (.I5 k) .sc
 refine AD fun z4 hz4=>?_
 let o5:List (PC P G):=o4++[pb hb6,Sf (Tu hz4 (.tmp 57) (.tmp 59))]
 refine Ai (fun hb7=>?_) fun hb7=>?_
 refine Ai (fun hb8=>?_) fun hb8=>?_
 rintro ⟨⟩
 exact A5 _ _ (Ae 300 (o5++[pn hb7,pk,pb hb8])) (by kernel_rfl) (.I5 k) .sc
 refine Ai (fun hb9=>?_) fun hb9=>?_
 rintro ⟨⟩
 exact A5 _ _ (Ae 300 (o5++[pn hb7,pk,pb hb8,pk,pb hb9])) (by kernel_rfl) (.I5 k) .sc
 refine Ai (fun hb10=>?_) fun hb10=>?_
 rintro ⟨⟩
 exact A5 _ _ (Ae 300 (o5++[pn hb7,pk,pb hb8,pk,pb hb9,pb hb10])) (by kernel_rfl) (.I5 k) .sc
 refine Ai (fun hb11=>?_) fun hb11=>?_
 rintro ⟨⟩
 exact A5 _ _ (Ae 300 (o5++[pn hb7,pk,pb hb8,pk,pb hb9,pb hb10,pb hb11])) (by kernel_rfl) (.I5 k) .sc
 rintro ⟨⟩
 exact BS Hd.Ac [fq (F6.DH f.ps)] [bp (XG.pl f)] (Ae 300 (o5++[pn hb7,pk,pb hb8,pk,pb hb9,pb hb10,pb hb11,pi mi0])) (by kernel_rfl) (k (js 31 j0 [(12,.bool true),(13,.bool false),(14,.bool false),(15,.bool true),(16,.bool true),(17,.bool false),(18,.bool false),(19,.bool false),(20,.bool false),(21,.bool false),(22,.bool false),(23,.bool false),(24,.bool false),(25,.bool false),(26,.bool false),(27,.bool false),(28,.bool false),(29,.bool false),(30,.bool false)]))
 rintro ⟨⟩
 exact A5 _ _ (Ae 300 (o5++[pn hb7])) (by kernel_rfl) (.I5 k) .sc
 refine AD fun z5 hz5=>?_
 let o6:List (PC P G):=o3++[pb hb5,Sf (Tu hz5 (.tmp 57) (.tmp 59))]
 refine Ai (fun hb12=>?_) fun hb12=>?_
 refine Ai (fun hb13=>?_) fun hb13=>?_
 rintro ⟨⟩
 exact A5 _ _ (Ae 300 (o6++[pn hb12,pk,pb hb13])) (by kernel_rfl) (.I5 k) .sc
 refine Ai (fun hb14=>?_) fun hb14=>?_
 rintro ⟨⟩
 exact A5 _ _ (Ae 300 (o6++[pn hb12,pk,pb hb13,pk,pb hb14])) (by kernel_rfl) (.I5 k) .sc
 refine Ai (fun hb15=>?_) fun hb15=>?_
 rintro ⟨⟩
 exact A5 _ _ (Ae 300 (o6++[pn hb12,pk,pb hb13,pk,pb hb14,pb hb15])) (by kernel_rfl) (.I5 k) .sc
 refine Ai (fun hb16=>?_) fun hb16=>?_
 rintro ⟨⟩
 exact A5 _ _ (Ae 300 (o6++[pn hb12,pk,pb hb13,pk,pb hb14,pb hb15,pb hb16])) (by kernel_rfl) (.I5 k) .sc
 rintro ⟨⟩
 exact BS Hd.Ac [fq (F6.DH f.ps)] [bp (XG.pl f)] (Ae 300 (o6++[pn hb12,pk,pb hb13,pk,pb hb14,pb hb15,pb hb16,pi mi0])) (by kernel_rfl) (k (js 31 j0 [(12,.bool true),(13,.bool false),(14,.bool false),(15,.bool false),(16,.bool false),(17,undef),(18,.bool false),(19,.bool false),(20,.bool false),(21,.bool false),(22,.bool false),(23,.bool false),(24,.bool false),(25,.bool false),(26,.bool false),(27,.bool false),(28,.bool false),(29,.bool false),(30,.bool false)]))
 rintro ⟨⟩
 exact A5 _ _ (Ae 300 (o6++[pn hb12])) (by kernel_rfl) (.I5 k) .sc
 rintro ⟨⟩ jx_6
 intro h
 have hE:=Option.some.inj h
 subst hE
 exact A5 _ _ (CX 300 []) (by kernel_rfl) .body .sc
 rintro ⟨⟩
 exact rS (Ae 300 (o1++[pb hb1,pb hb2,Em (SS .lost hx2),pn hb3])) (by kernel_rfl)
 subst hv
 rintro ⟨⟩
 exact rS (Ae 300 o1) (by kernel_rfl)
theorem AG {c:Ck} {n:Nd} {depth:Int} {yR:Bool} {qc_nodesR:Int} (hS:Sound P G (.call 49 [.ptr 0 0,.agg (BP n),.sc (.int .i64 depth)] ⟨[(0,.cells (DR c))],1,[],0⟩ (.ret (.sc (.bool yR))) ⟨[(0,.cells [.sc (.int .i64 qc_nodesR)])],1,[],0⟩)) (u0:Nat) (hnb:([u0]:List Nat).Nodup:=by decide) (hnt:([]:List Nat).Nodup:=by decide):Cd.ok P G (.callU 49 [.ptr u0 0,.agg (BP n),.sc (.int .i64 depth)] (.ret (.sc (.bool yR))) [(u0,.cells (DR c))] [] [(u0,.cells [.sc (.int .i64 qc_nodesR)])] []) :=
 D7 (M:=[.cells (DR c)]) (M2:=[.cells [.sc (.int .i64 qc_nodesR)]]) (T:=[]) (T2:=[]) (k:=1) (j:=0) Hd.Ac _ _ _ _ hS rfl rfl rfl rfl rfl hnb hnt rfl rfl (.cons (.cells (.pl (Iw.pl c))) .nil) (.cons (.cells (.pl (BI rfl rfl))) .nil) (.cons (.ptr (by decide)) (.cons (.pl (Ay.Lc n)) (.cons (.pl rfl) .nil))) (.pl rfl) (fun e he=>by simp only [List.mem_singleton] at he;subst he;exact (.arg (.here .ptr)))
theorem Hz {c:Ck} {n:Nd} {depth:Int} {yR:Bool} {qc_nodesR:Int} (hS:Sound P G (.call 80 [.ptr 0 0,.agg (BP n),.sc (.int .i64 depth)] ⟨[(0,.cells (DR c))],1,[],0⟩ (.ret (.sc (.bool yR))) ⟨[(0,.cells [.sc (.int .i64 qc_nodesR)])],1,[],0⟩)) (u0:Nat) (hnb:([u0]:List Nat).Nodup:=by decide) (hnt:([]:List Nat).Nodup:=by decide):Cd.ok P G (.callU 80 [.ptr u0 0,.agg (BP n),.sc (.int .i64 depth)] (.ret (.sc (.bool yR))) [(u0,.cells (DR c))] [] [(u0,.cells [.sc (.int .i64 qc_nodesR)])] []) :=
 D7 (M:=[.cells (DR c)]) (M2:=[.cells [.sc (.int .i64 qc_nodesR)]]) (T:=[]) (T2:=[]) (k:=1) (j:=0) Hd.Ac _ _ _ _ hS rfl rfl rfl rfl rfl hnb hnt rfl rfl (.cons (.cells (.pl (Iw.pl c))) .nil) (.cons (.cells (.pl (BI rfl rfl))) .nil) (.cons (.ptr (by decide)) (.cons (.pl (Ay.Lc n)) (.cons (.pl rfl) .nil))) (.pl rfl) (fun e he=>by simp only [List.mem_singleton] at he;subst he;exact (.arg (.here .ptr)))
theorem EJ {c:Ck} {n:Nd} {depth:Int} {yR:Bool} {qc_nodesR:Int} (hS:Sound P G (.call 115 [.ptr 0 0,.agg (BP n),.sc (.int .i64 depth)] ⟨[(0,.cells (DR c))],1,[],0⟩ (.ret (.sc (.bool yR))) ⟨[(0,.cells [.sc (.int .i64 qc_nodesR)])],1,[],0⟩)) (u0:Nat) (hnb:([u0]:List Nat).Nodup:=by decide) (hnt:([]:List Nat).Nodup:=by decide):Cd.ok P G (.callU 115 [.ptr u0 0,.agg (BP n),.sc (.int .i64 depth)] (.ret (.sc (.bool yR))) [(u0,.cells (DR c))] [] [(u0,.cells [.sc (.int .i64 qc_nodesR)])] []) :=
 D7 (M:=[.cells (DR c)]) (M2:=[.cells [.sc (.int .i64 qc_nodesR)]]) (T:=[]) (T2:=[]) (k:=1) (j:=0) Hd.Ac _ _ _ _ hS rfl rfl rfl rfl rfl hnb hnt rfl rfl (.cons (.cells (.pl (Iw.pl c))) .nil) (.cons (.cells (.pl (BI rfl rfl))) .nil) (.cons (.ptr (by decide)) (.cons (.pl (Ay.Lc n)) (.cons (.pl rfl) .nil))) (.pl rfl) (fun e he=>by simp only [List.mem_singleton] at he;subst he;exact (.arg (.here .ptr)))
theorem Ei {c:Ck} {list:(List Nd)} {depth:Int} {yR:Bool} {qc_nodesR:Int} (hS:Sound P G (.call 52 [.ptr 0 0,.sl .lost list.length (AW list),.sc (.int .i64 depth),.fn (.func 49) [.ptr 0 0] []] ⟨[(0,.cells (DR c))],1,[],0⟩ (.ret (.sc (.bool yR))) ⟨[(0,.cells [.sc (.int .i64 qc_nodesR)])],1,[],0⟩)) (u0:Nat) (hnb:([u0]:List Nat).Nodup:=by decide) (hnt:([]:List Nat).Nodup:=by decide):Cd.ok P G (.callU 52 [.ptr u0 0,.sl .lost list.length (AW list),.sc (.int .i64 depth),.fn (.func 49) [.ptr u0 0] []] (.ret (.sc (.bool yR))) [(u0,.cells (DR c))] [] [(u0,.cells [.sc (.int .i64 qc_nodesR)])] []) :=
 D7 (M:=[.cells (DR c)]) (M2:=[.cells [.sc (.int .i64 qc_nodesR)]]) (T:=[]) (T2:=[]) (k:=1) (j:=0) Hd.Ac _ _ _ _ hS rfl rfl rfl rfl rfl hnb hnt rfl rfl (.cons (.cells (.pl (Iw.pl c))) .nil) (.cons (.cells (.pl (BI rfl rfl))) .nil) (.cons (.ptr (by decide)) (.cons (.pl (Ay.DH list)) (.cons (.pl rfl) (.cons (.fn (.cons (.ptr (by decide)) .nil) (.pl rfl)) .nil)))) (.pl rfl) (fun e he=>by simp only [List.mem_singleton] at he;subst he;exact (.arg (.here .ptr)))
noncomputable def B49:Code:=Bp Tryz.f49
theorem b49:Tryz.f49.body=some B49:=by kernel_rfl
noncomputable def BM (Ag:Ck→Nd→Int→Option (Bool×Int)) (Au:Ck→Nd→Int→Option (Bool×Int)) (Av:Ck→Nd→Int→Option (Bool×Int)) (Al:Ck→(List Nd)→Int→Option (Bool×Int)) (c:Ck) (n:Nd) (depth:Int):Option (Bool×Int):=(A9 c n depth).bind fun (y1a,y1b)=>cond y1a (cond (DM n.kind 11) ((B5 n.unit).bind fun y2=>cond y2 (cond (Fx n.n 0) (some (false,y1b)) (cond (Fx 999999999999 n.n) (some (false,y1b)) (cond (Cc n.unit.data.toList A8.data.toList) (cond (Fx 1 n.n) (some (false,y1b)) (cond (DM ((n.kids.length:Nat):Int) 0) ((AT n (⟨0,ByteArray.empty,n.unit,n.n,0,0,0,(⟨0,[]⟩:Fn),[],0⟩:Nd)).bind fun y3=>some (y3,y1b)) (some (false,y1b)))) (cond (DM ((n.kids.length:Nat):Int) 0) ((AT n (⟨0,ByteArray.empty,n.unit,n.n,0,0,0,(⟨0,[]⟩:Fn),[],0⟩:Nd)).bind fun y4=>some (y4,y1b)) (some (false,y1b)))))) (some (false,y1b))) (cond (DM n.kind 12) ((BL n.name).bind fun y5=>cond y5 (cond (DM ((n.kids.length:Nat):Int) 0) ((AT n (⟨0,n.name,ByteArray.empty,0,0,0,0,(⟨0,[]⟩:Fn),[],0⟩:Nd)).bind fun y6=>some (y6,y1b)) (some (false,y1b))) (some (false,y1b))) (cond (DM n.kind 13) ((BB n.n).bind fun y7=>cond y7 (cond (DM ((n.kids.length:Nat):Int) 0) ((AT n (⟨0,ByteArray.empty,ByteArray.empty,n.n,0,0,0,(⟨0,[]⟩:Fn),[],0⟩:Nd)).bind fun y8=>some (y8,y1b)) (some (false,y1b))) (some (false,y1b))) (cond (DM n.kind 14) ((CE n.name).bind fun y9=>cond y9 (cond (DM ((n.kids.length:Nat):Int) 0) ((AT n (⟨0,n.name,ByteArray.empty,0,0,0,0,(⟨0,[]⟩:Fn),[],0⟩:Nd)).bind fun y10=>some (y10,y1b)) (some (false,y1b))) (some (false,y1b))) (cond (DM n.kind 15) (cond (DM ((n.kids.length:Nat):Int) 1) ((AT n (⟨0,ByteArray.empty,ByteArray.empty,0,0,0,0,(⟨0,[]⟩:Fn),[],0⟩:Nd)).bind fun y11=>cond y11 ((n.kids[0]?).bind fun x12=>(Ag (⟨y1b⟩:Ck) x12 (Bz depth 1)).bind fun (y13a,y13b)=>some (y13a,y13b)) (some (false,y1b))) (some (false,y1b))) (cond (DM n.kind 16) ((AT n (⟨0,n.name,ByteArray.empty,0,0,0,0,(⟨0,[]⟩:Fn),[],0⟩:Nd)).bind fun y14=>cond y14 ((Au (⟨y1b⟩:Ck) n depth).bind fun (y15a,y15b)=>some (y15a,y15b)) (some (false,y1b))) (cond (DM n.kind 17) (cond (Cc n.name.data.toList J2.data.toList) ((AT n (⟨0,n.name,ByteArray.empty,0,0,0,0,(⟨0,[]⟩:Fn),[],0⟩:Nd)).bind fun y16=>cond y16 (cond (O0 2 ((n.kids.length:Nat):Int)) ((Al (⟨y1b⟩:Ck) n.kids (Bz depth 1)).bind fun (y17a,y17b)=>some (y17a,y17b)) (some (false,y1b))) (some (false,y1b))) (cond (Cc n.name.data.toList Gf.data.toList) ((AT n (⟨0,n.name,ByteArray.empty,0,0,0,0,(⟨0,[]⟩:Fn),[],0⟩:Nd)).bind fun y18=>cond y18 (cond (O0 2 ((n.kids.length:Nat):Int)) ((Al (⟨y1b⟩:Ck) n.kids (Bz depth 1)).bind fun (y19a,y19b)=>some (y19a,y19b)) (some (false,y1b))) (some (false,y1b))) (some (false,y1b)))) (cond (DM n.kind 18) ((AT n (⟨0,ByteArray.empty,ByteArray.empty,0,0,0,0,n.tab,[],0⟩:Nd)).bind fun y20=>cond y20 ((CO n.tab).bind fun y21=>cond y21 (cond (DM ((n.kids.length:Nat):Int) 1) ((n.kids[0]?).bind fun x22=>(Ag (⟨y1b⟩:Ck) x22 (Bz depth 1)).bind fun (y23a,y23b)=>some (y23a,y23b)) (some (false,y1b))) (some (false,y1b))) (some (false,y1b))) (some (false,y1b)))))))))) (some (false,y1b))
theorem G5 (Ag:Ck→Nd→Int→Option (Bool×Int)) (Au:Ck→Nd→Int→Option (Bool×Int)) (Av:Ck→Nd→Int→Option (Bool×Int)) (Al:Ck→(List Nd)→Int→Option (Bool×Int)) (Az:∀ {c:Ck} {n:Nd} {depth:Int} {yR:Bool} {qc_nodesR:Int},Ag c n depth=some (yR,qc_nodesR)→Sound P G (.call 49 [.ptr 0 0,.agg (BP n),.sc (.int .i64 depth)] ⟨[(0,.cells (DR c))],1,[],0⟩ (.ret (.sc (.bool yR))) ⟨[(0,.cells [.sc (.int .i64 qc_nodesR)])],1,[],0⟩)) (Cg:∀ {c:Ck} {n:Nd} {depth:Int} {yR:Bool} {qc_nodesR:Int},Au c n depth=some (yR,qc_nodesR)→Sound P G (.call 80 [.ptr 0 0,.agg (BP n),.sc (.int .i64 depth)] ⟨[(0,.cells (DR c))],1,[],0⟩ (.ret (.sc (.bool yR))) ⟨[(0,.cells [.sc (.int .i64 qc_nodesR)])],1,[],0⟩)) (Ch:∀ {c:Ck} {n:Nd} {depth:Int} {yR:Bool} {qc_nodesR:Int},Av c n depth=some (yR,qc_nodesR)→Sound P G (.call 115 [.ptr 0 0,.agg (BP n),.sc (.int .i64 depth)] ⟨[(0,.cells (DR c))],1,[],0⟩ (.ret (.sc (.bool yR))) ⟨[(0,.cells [.sc (.int .i64 qc_nodesR)])],1,[],0⟩)) (BE:∀ {c:Ck} {list:(List Nd)} {depth:Int} {yR:Bool} {qc_nodesR:Int},Al c list depth=some (yR,qc_nodesR)→Sound P G (.call 52 [.ptr 0 0,.sl .lost list.length (AW list),.sc (.int .i64 depth),.fn (.func 49) [.ptr 0 0] []] ⟨[(0,.cells (DR c))],1,[],0⟩ (.ret (.sc (.bool yR))) ⟨[(0,.cells [.sc (.int .i64 qc_nodesR)])],1,[],0⟩)) {c:Ck} {n:Nd} {depth:Int} {yR:Bool} {qc_nodesR:Int} (h:BM Ag Au Av Al c n depth=some (yR,qc_nodesR)):Sound P G (.call 49 [.ptr 0 0,.agg (BP n),.sc (.int .i64 depth)] ⟨[(0,.cells (DR c))],1,[],0⟩ (.ret (.sc (.bool yR))) ⟨[(0,.cells [.sc (.int .i64 qc_nodesR)])],1,[],0⟩):=by
 unfold BM at h
 refine D5 Hd.mixed (AZ Tryz.func49 b49 ?_)
 revert h
 refine AD ?_
 rintro ⟨y1a,y1b⟩ hy1
 dsimp only
 let o1:List (PC P G):=[AF (Cb (BQ hy1) 0)]
 refine Ai (fun hv=>?_) fun hv=>?_
 subst hv
 refine Ai (fun hb1=>?_) fun hb1=>?_
 refine AD fun y2 hy2=>?_
 let o2:List (PC P G):=o1++[pb hb1,Bk (Cn hy2)]
 refine Ai (fun hv=>?_) fun hv=>?_
 subst hv
 refine Ai (fun hb2=>?_) fun hb2=>?_
 intro h
 have hE:=Option.some.inj h
 obtain ⟨hE0,hF0⟩:=Prod.mk.inj hE
 subst hE0 hF0
 exact Am Hd.Ac _ _ [] [none] (Ae 300 (o2++[pb hb2])) (by kernel_rfl) .body
 refine Ai (fun hb3=>?_) fun hb3=>?_
 intro h
 have hE:=Option.some.inj h
 obtain ⟨hE0,hF0⟩:=Prod.mk.inj hE
 subst hE0 hF0
 exact Am Hd.Ac _ _ [] [none] (Ae 300 (o2++[pb hb2,pb hb3])) (by kernel_rfl) .body
 refine Ai (fun hb4=>?_) fun hb4=>?_
 refine Ai (fun hb5=>?_) fun hb5=>?_
 intro h
 have hE:=Option.some.inj h
 obtain ⟨hE0,hF0⟩:=Prod.mk.inj hE
 subst hE0 hF0
 exact Am Hd.Ac _ _ [] [none] (Ae 300 (o2++[pb hb2,pb hb3,pb hb4,pb hb5])) (by kernel_rfl) .body
 refine Ai (fun hb6=>?_) fun hb6=>?_
 refine AD fun y3 hy3=>?_
 intro h
 have hE:=Option.some.inj h
 obtain ⟨hE0,hF0⟩:=Prod.mk.inj hE
 subst hE0 hF0
 exact Am Hd.Ac _ _ [] [none] (Ae 300 (o2++[pb hb2,pb hb3,pb hb4,pb hb5,pb hb6,Ek (.r (.g (.r (.r (.r (.r (.r (.r (.r (.r (.z (.z (.r .nil))))))))))) .nil)) (AQ hy3)])) (by kernel_rfl) .body
 intro h
 have hE:=Option.some.inj h
 obtain ⟨hE0,hF0⟩:=Prod.mk.inj hE
 subst hE0 hF0
 exact Am Hd.Ac _ _ [] [none] (Ae 300 (o2++[pb hb2,pb hb3,pb hb4,pb hb5,pb hb6])) (by kernel_rfl) .body
 refine Ai (fun hb7=>?_) fun hb7=>?_
 refine AD fun y4 hy4=>?_
 intro h
 have hE:=Option.some.inj h
 obtain ⟨hE0,hF0⟩:=Prod.mk.inj hE
 subst hE0 hF0
 exact Am Hd.Ac _ _ [] [none] (Ae 300 (o2++[pb hb2,pb hb3,pb hb4,pb hb7,Ek (.r (.g (.r (.r (.r (.r (.r (.r (.r (.r (.z (.z (.r .nil))))))))))) .nil)) (AQ hy4)])) (by kernel_rfl) .body
 intro h
 have hE:=Option.some.inj h
 obtain ⟨hE0,hF0⟩:=Prod.mk.inj hE
 subst hE0 hF0
 exact Am Hd.Ac _ _ [] [none] (Ae 300 (o2++[pb hb2,pb hb3,pb hb4,pb hb7])) (by kernel_rfl) .body
 subst hv
 intro h
 have hE:=Option.some.inj h
 obtain ⟨hE0,hF0⟩:=Prod.mk.inj hE
 subst hE0 hF0
 exact Am Hd.Ac _ _ [] [none] (Ae 300 o2) (by kernel_rfl) .body
 let o3:List (PC P G):=o1++[pb hb1]
 refine Ai (fun hb8=>?_) fun hb8=>?_
 refine AD fun y5 hy5=>?_
 let o4:List (PC P G):=o3++[pb hb8,Bk (C2 hy5)]
 refine Ai (fun hv=>?_) fun hv=>?_
 subst hv
 refine Ai (fun hb9=>?_) fun hb9=>?_
 refine AD fun y6 hy6=>?_
 intro h
 have hE:=Option.some.inj h
 obtain ⟨hE0,hF0⟩:=Prod.mk.inj hE
 subst hE0 hF0
 exact Am Hd.Ac _ _ [] [none] (Ae 300 (o4++[pb hb9,Ek (.r (.g (.r (.r (.r (.r (.r (.r (.r (.r (.z (.z (.r .nil))))))))))) .nil)) (AQ hy6)])) (by kernel_rfl) .body
 intro h
 have hE:=Option.some.inj h
 obtain ⟨hE0,hF0⟩:=Prod.mk.inj hE
 subst hE0 hF0
 exact Am Hd.Ac _ _ [] [none] (Ae 300 (o4++[pb hb9])) (by kernel_rfl) .body
 subst hv
 intro h
 have hE:=Option.some.inj h
 obtain ⟨hE0,hF0⟩:=Prod.mk.inj hE
 subst hE0 hF0
 exact Am Hd.Ac _ _ [] [none] (Ae 300 o4) (by kernel_rfl) .body
 let o5:List (PC P G):=o3++[pb hb8]
 refine Ai (fun hb10=>?_) fun hb10=>?_
 refine AD fun y7 hy7=>?_
 let o6:List (PC P G):=o5++[pb hb10,Bk (CU hy7)]
 refine Ai (fun hv=>?_) fun hv=>?_
 subst hv
 refine Ai (fun hb11=>?_) fun hb11=>?_
 refine AD fun y8 hy8=>?_
 intro h
 have hE:=Option.some.inj h
 obtain ⟨hE0,hF0⟩:=Prod.mk.inj hE
 subst hE0 hF0
 exact Am Hd.Ac _ _ [] [none] (Ae 300 (o6++[pb hb11,Ek (.r (.g (.r (.r (.r (.r (.r (.r (.r (.r (.z (.z (.r .nil))))))))))) .nil)) (AQ hy8)])) (by kernel_rfl) .body
 intro h
 have hE:=Option.some.inj h
 obtain ⟨hE0,hF0⟩:=Prod.mk.inj hE
 subst hE0 hF0
 exact Am Hd.Ac _ _ [] [none] (Ae 300 (o6++[pb hb11])) (by kernel_rfl) .body
 subst hv
 intro h
 have hE:=Option.some.inj h
 obtain ⟨hE0,hF0⟩:=Prod.mk.inj hE
 subst hE0 hF0
 exact Am Hd.Ac _ _ [] [none] (Ae 300 o6) (by kernel_rfl) .body
 let o7:List (PC P G):=o5++[pb hb10]
 refine Ai (fun hb12=>?_) fun hb12=>?_
 refine AD fun y9 hy9=>?_
 let o8:List (PC P G):=o7++[pb hb12,Bk (H3 hy9)]
 refine Ai (fun hv=>?_) fun hv=>?_
 subst hv
 refine Ai (fun hb13=>?_) fun hb13=>?_
 refine AD fun y10 hy10=>?_
 intro h
 have hE:=Option.some.inj h
 obtain ⟨hE0,hF0⟩:=Prod.mk.inj hE
 subst hE0 hF0
 exact Am Hd.Ac _ _ [] [none] (Ae 300 (o8++[pb hb13,Ek (.r (.g (.r (.r (.r (.r (.r (.r (.r (.r (.z (.z (.r .nil))))))))))) .nil)) (AQ hy10)])) (by kernel_rfl) .body
 intro h
 have hE:=Option.some.inj h
 obtain ⟨hE0,hF0⟩:=Prod.mk.inj hE
 subst hE0 hF0
 exact Am Hd.Ac _ _ [] [none] (Ae 300 (o8++[pb hb13])) (by kernel_rfl) .body
 subst hv
 intro h
 have hE:=Option.some.inj h
 obtain ⟨hE0,hF0⟩:=Prod.mk.inj hE
 subst hE0 hF0
 exact Am Hd.Ac _ _ [] [none] (Ae 300 o8) (by kernel_rfl) .body
 let o9:List (PC P G):=o7++[pb hb12]
 refine Ai (fun hb14=>?_) fun hb14=>?_
 refine Ai (fun hb15=>?_) fun hb15=>?_
 refine AD fun y11 hy11=>?_
 let o10:List (PC P G):=o9++[pb hb14,pb hb15,Ek (.r (.g (.r (.r (.r (.r (.r (.r (.r (.r (.z (.z (.r .nil))))))))))) .nil)) (AQ hy11)]
 refine Ai (fun hv=>?_) fun hv=>?_
 subst hv
 refine AD fun x12 hx12=>?_
 refine AD ?_
 rintro ⟨y13a,y13b⟩ hy13
 dsimp only
 intro h
 have hE:=Option.some.inj h
 obtain ⟨hE0,hF0⟩:=Prod.mk.inj hE
 subst hE0 hF0
 exact Am Hd.Ac _ _ [] [none] (Ae 300 (o10++[Em (DT .lost hx12),pk,AF (AG (Az hy13) 0)])) (by kernel_rfl) .body
 subst hv
 intro h
 have hE:=Option.some.inj h
 obtain ⟨hE0,hF0⟩:=Prod.mk.inj hE
 subst hE0 hF0
 exact Am Hd.Ac _ _ [] [none] (Ae 300 o10) (by kernel_rfl) .body
 intro h
 have hE:=Option.some.inj h
 obtain ⟨hE0,hF0⟩:=Prod.mk.inj hE
 subst hE0 hF0
 exact Am Hd.Ac _ _ [] [none] (Ae 300 (o9++[pb hb14,pb hb15])) (by kernel_rfl) .body
 let o11:List (PC P G):=o9++[pb hb14]
 refine Ai (fun hb16=>?_) fun hb16=>?_
 refine AD fun y14 hy14=>?_
 let o12:List (PC P G):=o11++[pb hb16,Ek (.r (.g (.r (.r (.r (.r (.r (.r (.r (.r (.z (.z (.r .nil))))))))))) .nil)) (AQ hy14)]
 refine Ai (fun hv=>?_) fun hv=>?_
 subst hv
 refine AD ?_
 rintro ⟨y15a,y15b⟩ hy15
 dsimp only
 intro h
 have hE:=Option.some.inj h
 obtain ⟨hE0,hF0⟩:=Prod.mk.inj hE
 subst hE0 hF0
 exact Am Hd.Ac _ _ [] [none] (Ae 300 (o12++[AF (Hz (Cg hy15) 0)])) (by kernel_rfl) .body
 subst hv
 intro h
 have hE:=Option.some.inj h
 obtain ⟨hE0,hF0⟩:=Prod.mk.inj hE
 subst hE0 hF0
 exact Am Hd.Ac _ _ [] [none] (Ae 300 o12) (by kernel_rfl) .body
 let o13:List (PC P G):=o11++[pb hb16]
 refine Ai (fun hb17=>?_) fun hb17=>?_
 refine Ai (fun hb18=>?_) fun hb18=>?_
 refine AD fun y16 hy16=>?_
 let o14:List (PC P G):=o13++[pb hb17,pb hb18,Ek (.r (.g (.r (.r (.r (.r (.r (.r (.r (.r (.z (.z (.r .nil))))))))))) .nil)) (AQ hy16)]
 refine Ai (fun hv=>?_) fun hv=>?_
 subst hv
 refine Ai (fun hb19=>?_) fun hb19=>?_
 refine AD ?_
 rintro ⟨y17a,y17b⟩ hy17
 dsimp only
 intro h
 have hE:=Option.some.inj h
 obtain ⟨hE0,hF0⟩:=Prod.mk.inj hE
 subst hE0 hF0
 exact Am Hd.Ac _ _ [] [none] (Ae 300 (o14++[pb hb19,pk,AF (Ei (BE hy17) 0)])) (by kernel_rfl) .body
 intro h
 have hE:=Option.some.inj h
 obtain ⟨hE0,hF0⟩:=Prod.mk.inj hE
 subst hE0 hF0
 exact Am Hd.Ac _ _ [] [none] (Ae 300 (o14++[pb hb19])) (by kernel_rfl) .body
 subst hv
 intro h
 have hE:=Option.some.inj h
 obtain ⟨hE0,hF0⟩:=Prod.mk.inj hE
 subst hE0 hF0
 exact Am Hd.Ac _ _ [] [none] (Ae 300 o14) (by kernel_rfl) .body
 refine Ai (fun hb20=>?_) fun hb20=>?_
 refine AD fun y18 hy18=>?_
 let o15:List (PC P G):=o13++[pb hb17,pb hb18,pb hb20,Ek (.r (.g (.r (.r (.r (.r (.r (.r (.r (.r (.z (.z (.r .nil))))))))))) .nil)) (AQ hy18)]
 refine Ai (fun hv=>?_) fun hv=>?_
 subst hv
 refine Ai (fun hb21=>?_) fun hb21=>?_
 refine AD ?_
 rintro ⟨y19a,y19b⟩ hy19
 dsimp only
 intro h
 have hE:=Option.some.inj h
 obtain ⟨hE0,hF0⟩:=Prod.mk.inj hE
 subst hE0 hF0
 exact Am Hd.Ac _ _ [] [none] (Ae 300 (o15++[pb hb21,pk,AF (Ei (BE hy19) 0)])) (by kernel_rfl) .body
 intro h
 have hE:=Option.some.inj h
 obtain ⟨hE0,hF0⟩:=Prod.mk.inj hE
 subst hE0 hF0
 exact Am Hd.Ac _ _ [] [none] (Ae 300 (o15++[pb hb21])) (by kernel_rfl) .body
 subst hv
 intro h
 have hE:=Option.some.inj h
 obtain ⟨hE0,hF0⟩:=Prod.mk.inj hE
 subst hE0 hF0
 exact Am Hd.Ac _ _ [] [none] (Ae 300 o15) (by kernel_rfl) .body
 intro h
 have hE:=Option.some.inj h
 obtain ⟨hE0,hF0⟩:=Prod.mk.inj hE
 subst hE0 hF0
 exact Am Hd.Ac _ _ [] [none] (Ae 300 (o13++[pb hb17,pb hb18,pb hb20])) (by kernel_rfl) .body
 refine Ai (fun hb22=>?_) fun hb22=>?_
 refine AD fun y20 hy20=>?_
 let o16:List (PC P G):=o13++[pb hb17,pb hb22,Ek (.r (.g (.r (.r (.r (.r (.r (.r (.r (.r (.r (.z (.r .nil))))))))))) .nil)) (AQ hy20)]
 refine Ai (fun hv=>?_) fun hv=>?_
 subst hv
 refine AD fun y21 hy21=>?_
 refine Ai (fun hv=>?_) fun hv=>?_
 subst hv
 refine Ai (fun hb23=>?_) fun hb23=>?_
 refine AD fun x22 hx22=>?_
 refine AD ?_
 rintro ⟨y23a,y23b⟩ hy23
 dsimp only
 intro h
 have hE:=Option.some.inj h
 obtain ⟨hE0,hF0⟩:=Prod.mk.inj hE
 subst hE0 hF0
 exact Am Hd.Ac _ _ [] [none] (Ae 300 (o16++[Bk (DN hy21),pb hb23,Em (DT .lost hx22),pk,AF (AG (Az hy23) 0)])) (by kernel_rfl) .body
 intro h
 have hE:=Option.some.inj h
 obtain ⟨hE0,hF0⟩:=Prod.mk.inj hE
 subst hE0 hF0
 exact Am Hd.Ac _ _ [] [none] (Ae 300 (o16++[Bk (DN hy21),pb hb23])) (by kernel_rfl) .body
 subst hv
 intro h
 have hE:=Option.some.inj h
 obtain ⟨hE0,hF0⟩:=Prod.mk.inj hE
 subst hE0 hF0
 exact Am Hd.Ac _ _ [] [none] (Ae 300 (o16++[Bk (DN hy21)])) (by kernel_rfl) .body
 subst hv
 intro h
 have hE:=Option.some.inj h
 obtain ⟨hE0,hF0⟩:=Prod.mk.inj hE
 subst hE0 hF0
 exact Am Hd.Ac _ _ [] [none] (Ae 300 o16) (by kernel_rfl) .body
 intro h
 have hE:=Option.some.inj h
 obtain ⟨hE0,hF0⟩:=Prod.mk.inj hE
 subst hE0 hF0
 exact Am Hd.Ac _ _ [] [none] (Ae 300 (o13++[pb hb17,pb hb22])) (by kernel_rfl) .body
 subst hv
 intro h
 have hE:=Option.some.inj h
 obtain ⟨hE0,hF0⟩:=Prod.mk.inj hE
 subst hE0 hF0
 exact Am Hd.Ac _ _ [] [none] (Ae 300 o1) (by kernel_rfl) .body
noncomputable def B80:Code:=Bp Tryz.f80
theorem b80:Tryz.f80.body=some B80:=by kernel_rfl
noncomputable def Bj (Ag:Ck→Nd→Int→Option (Bool×Int)) (Au:Ck→Nd→Int→Option (Bool×Int)) (Av:Ck→Nd→Int→Option (Bool×Int)) (Al:Ck→(List Nd)→Int→Option (Bool×Int)) (c:Ck) (n:Nd) (depth:Int):Option (Bool×Int):=cond (DM ((n.kids.length:Nat):Int) 2) ((n.kids[0]?).bind fun x1=>(Ag c x1 (Bz depth 1)).bind fun (y2a,y2b)=>cond y2a (cond (Cc n.name.data.toList MK.data.toList) ((n.kids[1]?).bind fun x3=>(Av (⟨y2b⟩:Ck) x3 (Bz depth 1)).bind fun (y4a,y4b)=>some (y4a,y4b)) (cond (Cc n.name.data.toList mW.data.toList) ((n.kids[1]?).bind fun x5=>(Ag (⟨y2b⟩:Ck) x5 (Bz depth 1)).bind fun (y6a,y6b)=>some (y6a,y6b)) (cond (Cc n.name.data.toList Nh.data.toList) ((n.kids[1]?).bind fun x7=>(Ag (⟨y2b⟩:Ck) x7 (Bz depth 1)).bind fun (y8a,y8b)=>some (y8a,y8b)) (cond (Cc n.name.data.toList Pt.data.toList) ((n.kids[1]?).bind fun x9=>(Ag (⟨y2b⟩:Ck) x9 (Bz depth 1)).bind fun (y10a,y10b)=>some (y10a,y10b)) (cond (Cc n.name.data.toList PB.data.toList) ((n.kids[1]?).bind fun x11=>(Ag (⟨y2b⟩:Ck) x11 (Bz depth 1)).bind fun (y12a,y12b)=>some (y12a,y12b)) (cond (Cc n.name.data.toList Y4.data.toList) ((n.kids[1]?).bind fun x13=>(Ag (⟨y2b⟩:Ck) x13 (Bz depth 1)).bind fun (y14a,y14b)=>some (y14a,y14b)) (cond (Cc n.name.data.toList PD.data.toList) ((n.kids[1]?).bind fun x15=>(Ag (⟨y2b⟩:Ck) x15 (Bz depth 1)).bind fun (y16a,y16b)=>some (y16a,y16b)) (cond (Cc n.name.data.toList O8.data.toList) ((n.kids[1]?).bind fun x17=>(Ag (⟨y2b⟩:Ck) x17 (Bz depth 1)).bind fun (y18a,y18b)=>some (y18a,y18b)) (cond (Cc n.name.data.toList bE.data.toList) ((n.kids[1]?).bind fun x19=>(Ag (⟨y2b⟩:Ck) x19 (Bz depth 1)).bind fun (y20a,y20b)=>some (y20a,y20b)) (cond (Cc n.name.data.toList cV.data.toList) ((n.kids[1]?).bind fun x21=>(Ag (⟨y2b⟩:Ck) x21 (Bz depth 1)).bind fun (y22a,y22b)=>some (y22a,y22b)) (cond (Cc n.name.data.toList nA.data.toList) ((n.kids[1]?).bind fun x23=>(Ag (⟨y2b⟩:Ck) x23 (Bz depth 1)).bind fun (y24a,y24b)=>some (y24a,y24b)) (some (false,y2b))))))))))))) (some (false,y2b))) (some (false,c.nodes))
theorem GG (Ag:Ck→Nd→Int→Option (Bool×Int)) (Au:Ck→Nd→Int→Option (Bool×Int)) (Av:Ck→Nd→Int→Option (Bool×Int)) (Al:Ck→(List Nd)→Int→Option (Bool×Int)) (Az:∀ {c:Ck} {n:Nd} {depth:Int} {yR:Bool} {qc_nodesR:Int},Ag c n depth=some (yR,qc_nodesR)→Sound P G (.call 49 [.ptr 0 0,.agg (BP n),.sc (.int .i64 depth)] ⟨[(0,.cells (DR c))],1,[],0⟩ (.ret (.sc (.bool yR))) ⟨[(0,.cells [.sc (.int .i64 qc_nodesR)])],1,[],0⟩)) (Cg:∀ {c:Ck} {n:Nd} {depth:Int} {yR:Bool} {qc_nodesR:Int},Au c n depth=some (yR,qc_nodesR)→Sound P G (.call 80 [.ptr 0 0,.agg (BP n),.sc (.int .i64 depth)] ⟨[(0,.cells (DR c))],1,[],0⟩ (.ret (.sc (.bool yR))) ⟨[(0,.cells [.sc (.int .i64 qc_nodesR)])],1,[],0⟩)) (Ch:∀ {c:Ck} {n:Nd} {depth:Int} {yR:Bool} {qc_nodesR:Int},Av c n depth=some (yR,qc_nodesR)→Sound P G (.call 115 [.ptr 0 0,.agg (BP n),.sc (.int .i64 depth)] ⟨[(0,.cells (DR c))],1,[],0⟩ (.ret (.sc (.bool yR))) ⟨[(0,.cells [.sc (.int .i64 qc_nodesR)])],1,[],0⟩)) (BE:∀ {c:Ck} {list:(List Nd)} {depth:Int} {yR:Bool} {qc_nodesR:Int},Al c list depth=some (yR,qc_nodesR)→Sound P G (.call 52 [.ptr 0 0,.sl .lost list.length (AW list),.sc (.int .i64 depth),.fn (.func 49) [.ptr 0 0] []] ⟨[(0,.cells (DR c))],1,[],0⟩ (.ret (.sc (.bool yR))) ⟨[(0,.cells [.sc (.int .i64 qc_nodesR)])],1,[],0⟩)) {c:Ck} {n:Nd} {depth:Int} {yR:Bool} {qc_nodesR:Int} (h:Bj Ag Au Av Al c n depth=some (yR,qc_nodesR)):Sound P G (.call 80 [.ptr 0 0,.agg (BP n),.sc (.int .i64 depth)] ⟨[(0,.cells (DR c))],1,[],0⟩ (.ret (.sc (.bool yR))) ⟨[(0,.cells [.sc (.int .i64 qc_nodesR)])],1,[],0⟩):=by
 unfold Bj at h
 refine D5 Hd.mixed (AZ Tryz.func80 b80 ?_)
 revert h
 refine Ai (fun hb1=>?_) fun hb1=>?_
 refine AD fun x1 hx1=>?_
 refine AD ?_
 rintro ⟨y2a,y2b⟩ hy2
 dsimp only
 let o1:List (PC P G):=[pn hb1,Em (DT .lost hx1),pk,AF (AG (Az hy2) 0)]
 refine Ai (fun hv=>?_) fun hv=>?_
 subst hv
 refine Ai (fun hb2=>?_) fun hb2=>?_
 refine AD fun x3 hx3=>?_
 refine AD ?_
 rintro ⟨y4a,y4b⟩ hy4
 dsimp only
 intro h
 have hE:=Option.some.inj h
 obtain ⟨hE0,hF0⟩:=Prod.mk.inj hE
 subst hE0 hF0
 exact Am Hd.Ac _ _ [] [none] (Ae 300 (o1++[pb hb2,Em (DT .lost hx3),pk,AF (EJ (Ch hy4) 0)])) (by kernel_rfl) .body
 let o2:List (PC P G):=o1++[pb hb2]
 refine Ai (fun hb3=>?_) fun hb3=>?_
 refine AD fun x5 hx5=>?_
 refine AD ?_
 rintro ⟨y6a,y6b⟩ hy6
 dsimp only
 intro h
 have hE:=Option.some.inj h
 obtain ⟨hE0,hF0⟩:=Prod.mk.inj hE
 subst hE0 hF0
 exact Am Hd.Ac _ _ [] [none] (Ae 300 (o2++[pb hb3,Em (DT .lost hx5),pk,AF (AG (Az hy6) 0)])) (by kernel_rfl) .body
 refine Ai (fun hb4=>?_) fun hb4=>?_
 refine AD fun x7 hx7=>?_
 refine AD ?_
 rintro ⟨y8a,y8b⟩ hy8
 dsimp only
 intro h
 have hE:=Option.some.inj h
 obtain ⟨hE0,hF0⟩:=Prod.mk.inj hE
 subst hE0 hF0
 exact Am Hd.Ac _ _ [] [none] (Ae 300 (o2++[pb hb3,pb hb4,Em (DT .lost hx7),pk,AF (AG (Az hy8) 0)])) (by kernel_rfl) .body
 let o3:List (PC P G):=o2++[pb hb3,pb hb4]
 refine Ai (fun hb5=>?_) fun hb5=>?_
 refine AD fun x9 hx9=>?_
 refine AD ?_
 rintro ⟨y10a,y10b⟩ hy10
 dsimp only
 intro h
 have hE:=Option.some.inj h
 obtain ⟨hE0,hF0⟩:=Prod.mk.inj hE
 subst hE0 hF0
 exact Am Hd.Ac _ _ [] [none] (Ae 300 (o3++[pb hb5,Em (DT .lost hx9),pk,AF (AG (Az hy10) 0)])) (by kernel_rfl) .body
 refine Ai (fun hb6=>?_) fun hb6=>?_
 refine AD fun x11 hx11=>?_
 refine AD ?_
 rintro ⟨y12a,y12b⟩ hy12
 dsimp only
 intro h
 have hE:=Option.some.inj h
 obtain ⟨hE0,hF0⟩:=Prod.mk.inj hE
 subst hE0 hF0
 exact Am Hd.Ac _ _ [] [none] (Ae 300 (o3++[pb hb5,pb hb6,Em (DT .lost hx11),pk,AF (AG (Az hy12) 0)])) (by kernel_rfl) .body
 let o4:List (PC P G):=o3++[pb hb5,pb hb6]
 refine Ai (fun hb7=>?_) fun hb7=>?_
 refine AD fun x13 hx13=>?_
 refine AD ?_
 rintro ⟨y14a,y14b⟩ hy14
 dsimp only
 intro h
 have hE:=Option.some.inj h
 obtain ⟨hE0,hF0⟩:=Prod.mk.inj hE
 subst hE0 hF0
 exact Am Hd.Ac _ _ [] [none] (Ae 300 (o4++[pb hb7,Em (DT .lost hx13),pk,AF (AG (Az hy14) 0)])) (by kernel_rfl) .body
 refine Ai (fun hb8=>?_) fun hb8=>?_
 refine AD fun x15 hx15=>?_
 refine AD ?_
 rintro ⟨y16a,y16b⟩ hy16
 dsimp only
 intro h
 have hE:=Option.some.inj h
 obtain ⟨hE0,hF0⟩:=Prod.mk.inj hE
 subst hE0 hF0
 exact Am Hd.Ac _ _ [] [none] (Ae 300 (o4++[pb hb7,pb hb8,Em (DT .lost hx15),pk,AF (AG (Az hy16) 0)])) (by kernel_rfl) .body
 refine Ai (fun hb9=>?_) fun hb9=>?_
 refine AD fun x17 hx17=>?_
 refine AD ?_
 rintro ⟨y18a,y18b⟩ hy18
 dsimp only
 intro h
 have hE:=Option.some.inj h
 obtain ⟨hE0,hF0⟩:=Prod.mk.inj hE
 subst hE0 hF0
 exact Am Hd.Ac _ _ [] [none] (Ae 300 (o4++[pb hb7,pb hb8,pb hb9,Em (DT .lost hx17),pk,AF (AG (Az hy18) 0)])) (by kernel_rfl) .body
 refine Ai (fun hb10=>?_) fun hb10=>?_
 refine AD fun x19 hx19=>?_
 refine AD ?_
 rintro ⟨y20a,y20b⟩ hy20
 dsimp only
 intro h
 have hE:=Option.some.inj h
 obtain ⟨hE0,hF0⟩:=Prod.mk.inj hE
 subst hE0 hF0
 exact Am Hd.Ac _ _ [] [none] (Ae 300 (o4++[pb hb7,pb hb8,pb hb9,pb hb10,Em (DT .lost hx19),pk,AF (AG (Az hy20) 0)])) (by kernel_rfl) .body
 refine Ai (fun hb11=>?_) fun hb11=>?_
 refine AD fun x21 hx21=>?_
 refine AD ?_
 rintro ⟨y22a,y22b⟩ hy22
 dsimp only
 intro h
 have hE:=Option.some.inj h
 obtain ⟨hE0,hF0⟩:=Prod.mk.inj hE
 subst hE0 hF0
 exact Am Hd.Ac _ _ [] [none] (Ae 300 (o4++[pb hb7,pb hb8,pb hb9,pb hb10,pb hb11,Em (DT .lost hx21),pk,AF (AG (Az hy22) 0)])) (by kernel_rfl) .body
 refine Ai (fun hb12=>?_) fun hb12=>?_
 refine AD fun x23 hx23=>?_
 refine AD ?_
 rintro ⟨y24a,y24b⟩ hy24
 dsimp only
 intro h
 have hE:=Option.some.inj h
 obtain ⟨hE0,hF0⟩:=Prod.mk.inj hE
 subst hE0 hF0
 exact Am Hd.Ac _ _ [] [none] (Ae 300 (o4++[pb hb7,pb hb8,pb hb9,pb hb10,pb hb11,pb hb12,Em (DT .lost hx23),pk,AF (AG (Az hy24) 0)])) (by kernel_rfl) .body
 intro h
 have hE:=Option.some.inj h
 obtain ⟨hE0,hF0⟩:=Prod.mk.inj hE
 subst hE0 hF0
 exact Am Hd.Ac _ _ [] [none] (Ae 300 (o4++[pb hb7,pb hb8,pb hb9,pb hb10,pb hb11,pb hb12])) (by kernel_rfl) .body
 subst hv
 intro h
 have hE:=Option.some.inj h
 obtain ⟨hE0,hF0⟩:=Prod.mk.inj hE
 subst hE0 hF0
 exact Am Hd.Ac _ _ [] [none] (Ae 300 o1) (by kernel_rfl) .body
 intro h
 have hE:=Option.some.inj h
 obtain ⟨hE0,hF0⟩:=Prod.mk.inj hE
 subst hE0 hF0
 exact Am Hd.Ac _ _ [] [bp (Iw.pl c)] (Ae 300 [pn hb1]) (by kernel_rfl) .body
noncomputable def s7:Code:=Bp Tryz.f115
theorem uJ:Tryz.f115.body=some s7:=by kernel_rfl
noncomputable def Bi (Ag:Ck→Nd→Int→Option (Bool×Int)) (Au:Ck→Nd→Int→Option (Bool×Int)) (Av:Ck→Nd→Int→Option (Bool×Int)) (Al:Ck→(List Nd)→Int→Option (Bool×Int)) (c:Ck) (n:Nd) (depth:Int):Option (Bool×Int):=(Ag c n depth).bind fun (y1a,y1b)=>cond y1a (cond (DM n.kind 11) (cond (Cc n.unit.data.toList CH.data.toList) ((BB n.n).bind fun y2=>some (y2,y1b)) (some (false,y1b))) (some (false,y1b))) (some (false,y1b))
theorem GF (Ag:Ck→Nd→Int→Option (Bool×Int)) (Au:Ck→Nd→Int→Option (Bool×Int)) (Av:Ck→Nd→Int→Option (Bool×Int)) (Al:Ck→(List Nd)→Int→Option (Bool×Int)) (Az:∀ {c:Ck} {n:Nd} {depth:Int} {yR:Bool} {qc_nodesR:Int},Ag c n depth=some (yR,qc_nodesR)→Sound P G (.call 49 [.ptr 0 0,.agg (BP n),.sc (.int .i64 depth)] ⟨[(0,.cells (DR c))],1,[],0⟩ (.ret (.sc (.bool yR))) ⟨[(0,.cells [.sc (.int .i64 qc_nodesR)])],1,[],0⟩)) (Cg:∀ {c:Ck} {n:Nd} {depth:Int} {yR:Bool} {qc_nodesR:Int},Au c n depth=some (yR,qc_nodesR)→Sound P G (.call 80 [.ptr 0 0,.agg (BP n),.sc (.int .i64 depth)] ⟨[(0,.cells (DR c))],1,[],0⟩ (.ret (.sc (.bool yR))) ⟨[(0,.cells [.sc (.int .i64 qc_nodesR)])],1,[],0⟩)) (Ch:∀ {c:Ck} {n:Nd} {depth:Int} {yR:Bool} {qc_nodesR:Int},Av c n depth=some (yR,qc_nodesR)→Sound P G (.call 115 [.ptr 0 0,.agg (BP n),.sc (.int .i64 depth)] ⟨[(0,.cells (DR c))],1,[],0⟩ (.ret (.sc (.bool yR))) ⟨[(0,.cells [.sc (.int .i64 qc_nodesR)])],1,[],0⟩)) (BE:∀ {c:Ck} {list:(List Nd)} {depth:Int} {yR:Bool} {qc_nodesR:Int},Al c list depth=some (yR,qc_nodesR)→Sound P G (.call 52 [.ptr 0 0,.sl .lost list.length (AW list),.sc (.int .i64 depth),.fn (.func 49) [.ptr 0 0] []] ⟨[(0,.cells (DR c))],1,[],0⟩ (.ret (.sc (.bool yR))) ⟨[(0,.cells [.sc (.int .i64 qc_nodesR)])],1,[],0⟩)) {c:Ck} {n:Nd} {depth:Int} {yR:Bool} {qc_nodesR:Int} (h:Bi Ag Au Av Al c n depth=some (yR,qc_nodesR)):Sound P G (.call 115 [.ptr 0 0,.agg (BP n),.sc (.int .i64 depth)] ⟨[(0,.cells (DR c))],1,[],0⟩ (.ret (.sc (.bool yR))) ⟨[(0,.cells [.sc (.int .i64 qc_nodesR)])],1,[],0⟩):=by
 unfold Bi at h
 refine D5 Hd.mixed (AZ Tryz.func115 uJ ?_)
 revert h
 refine AD ?_
 rintro ⟨y1a,y1b⟩ hy1
 dsimp only
 let o1:List (PC P G):=[AF (AG (Az hy1) 0)]
 refine Ai (fun hv=>?_) fun hv=>?_
 subst hv
 refine Ai (fun hb1=>?_) fun hb1=>?_
 refine Ai (fun hb2=>?_) fun hb2=>?_
 refine AD fun y2 hy2=>?_
 intro h
 have hE:=Option.some.inj h
 obtain ⟨hE0,hF0⟩:=Prod.mk.inj hE
 subst hE0 hF0
 exact Am Hd.Ac _ _ [] [none] (Ae 300 (o1++[pb hb1,pb hb2,Bk (CU hy2)])) (by kernel_rfl) .body
 intro h
 have hE:=Option.some.inj h
 obtain ⟨hE0,hF0⟩:=Prod.mk.inj hE
 subst hE0 hF0
 exact Am Hd.Ac _ _ [] [none] (Ae 300 (o1++[pb hb1,pb hb2])) (by kernel_rfl) .body
 intro h
 have hE:=Option.some.inj h
 obtain ⟨hE0,hF0⟩:=Prod.mk.inj hE
 subst hE0 hF0
 exact Am Hd.Ac _ _ [] [none] (Ae 300 (o1++[pb hb1])) (by kernel_rfl) .body
 subst hv
 intro h
 have hE:=Option.some.inj h
 obtain ⟨hE0,hF0⟩:=Prod.mk.inj hE
 subst hE0 hF0
 exact Am Hd.Ac _ _ [] [none] (Ae 300 o1) (by kernel_rfl) .body
noncomputable def ZT:Code:=Bp Tryz.f52
theorem sR:Tryz.f52.body=some ZT:=by kernel_rfl
noncomputable def BC (Ag:Ck→Nd→Int→Option (Bool×Int)) (Au:Ck→Nd→Int→Option (Bool×Int)) (Av:Ck→Nd→Int→Option (Bool×Int)) (Al:Ck→(List Nd)→Int→Option (Bool×Int)) (depth:Int) (i0:Nat) (e0:Nd) (w0_0:Int):Option (Lp Int Int (Bool×Int)):=(Ag (⟨w0_0⟩:Ck) e0 depth).bind fun (y1a,y1b)=>cond y1a (some (.nx y1b)) (some (.rt (false,y1b)))
noncomputable def Bo (Ag:Ck→Nd→Int→Option (Bool×Int)) (Au:Ck→Nd→Int→Option (Bool×Int)) (Av:Ck→Nd→Int→Option (Bool×Int)) (Al:Ck→(List Nd)→Int→Option (Bool×Int)) (c:Ck) (list:(List Nd)) (depth:Int):Option (Bool×Int):=(IZ list.length (A2 (fun i y x=>BC Ag Au Av Al depth i y x) (fun x=>x) (list.drop 0) 0 c.nodes)).bind (JA (fun (w0_0_2:Int)=>some (true,w0_0_2)) (fun v=>some v))
theorem F0 (Ag:Ck→Nd→Int→Option (Bool×Int)) (Au:Ck→Nd→Int→Option (Bool×Int)) (Av:Ck→Nd→Int→Option (Bool×Int)) (Al:Ck→(List Nd)→Int→Option (Bool×Int)) (Az:∀ {c:Ck} {n:Nd} {depth:Int} {yR:Bool} {qc_nodesR:Int},Ag c n depth=some (yR,qc_nodesR)→Sound P G (.call 49 [.ptr 0 0,.agg (BP n),.sc (.int .i64 depth)] ⟨[(0,.cells (DR c))],1,[],0⟩ (.ret (.sc (.bool yR))) ⟨[(0,.cells [.sc (.int .i64 qc_nodesR)])],1,[],0⟩)) (Cg:∀ {c:Ck} {n:Nd} {depth:Int} {yR:Bool} {qc_nodesR:Int},Au c n depth=some (yR,qc_nodesR)→Sound P G (.call 80 [.ptr 0 0,.agg (BP n),.sc (.int .i64 depth)] ⟨[(0,.cells (DR c))],1,[],0⟩ (.ret (.sc (.bool yR))) ⟨[(0,.cells [.sc (.int .i64 qc_nodesR)])],1,[],0⟩)) (Ch:∀ {c:Ck} {n:Nd} {depth:Int} {yR:Bool} {qc_nodesR:Int},Av c n depth=some (yR,qc_nodesR)→Sound P G (.call 115 [.ptr 0 0,.agg (BP n),.sc (.int .i64 depth)] ⟨[(0,.cells (DR c))],1,[],0⟩ (.ret (.sc (.bool yR))) ⟨[(0,.cells [.sc (.int .i64 qc_nodesR)])],1,[],0⟩)) (BE:∀ {c:Ck} {list:(List Nd)} {depth:Int} {yR:Bool} {qc_nodesR:Int},Al c list depth=some (yR,qc_nodesR)→Sound P G (.call 52 [.ptr 0 0,.sl .lost list.length (AW list),.sc (.int .i64 depth),.fn (.func 49) [.ptr 0 0] []] ⟨[(0,.cells (DR c))],1,[],0⟩ (.ret (.sc (.bool yR))) ⟨[(0,.cells [.sc (.int .i64 qc_nodesR)])],1,[],0⟩)) {c:Ck} {list:(List Nd)} {depth:Int} {yR:Bool} {qc_nodesR:Int} (h:Bo Ag Au Av Al c list depth=some (yR,qc_nodesR)):Sound P G (.call 52 [.ptr 0 0,.sl .lost list.length (AW list),.sc (.int .i64 depth),.fn (.func 49) [.ptr 0 0] []] ⟨[(0,.cells (DR c))],1,[],0⟩ (.ret (.sc (.bool yR))) ⟨[(0,.cells [.sc (.int .i64 qc_nodesR)])],1,[],0⟩):=by
 unfold Bo at h
 refine D5 Hd.mixed (AZ Tryz.func52 sR ?_)
 revert h
 refine GM (fun Q v=>Hs P G Tryz.f52 1 ⟨[(0,.cells (DR c))],1,[],0⟩ Q (.sc (.bool v.1)) ⟨[(0,.cells [.sc (.int .i64 v.2)])],1,[],0⟩) (fun i0 (w0_0:Int) (j0:List Value)=>fr 23 [(2,.sc (.int .i64 depth)),(3,.fn (.func 49) [.ptr 0 0] []),(11,.sl .lost list.length (AW list)),(12,.sc (.int .i64 ((list.length:Nat):Int))),(13,.sc (.int .i64 ((i0:Nat):Int)))] [8,14,20,21] j0) (fun (w0_0:Int)=>⟨[(0,.cells [.sc (.int .i64 w0_0)])],1,[],0⟩) (fun (w0_0:Int) (jx:List Value)=>fr 23 [] [8,14,20,21] jx) (fun (w0_0:Int)=>⟨[(0,.cells [.sc (.int .i64 w0_0)])],1,[],0⟩) [.bool false] (GC [] 0 (sb ZT 52) [.code (sb ZT 7)] (Ae 300 []) (by kernel_rfl)) ?_ ?_ ?_ (fun v h=>by cases h;exact .outer .body)
 rintro i0 w0_0 j0 hge hq
 exact DQ (Ae 300 [pb (Mj hge)]) (by kernel_rfl) (hq (js 4 j0 [(1,.bool false)]))
 rintro i0 e0 w0_0 j0 r he0 hi0 mi0 k
 show BC Ag Au Av Al depth i0 e0 w0_0=some r→_
 unfold BC
 refine AD ?_
 rintro ⟨y1a,y1b⟩ hy1
 dsimp only
 let o1:List (PC P G):=[pb (Jb hi0),Em (DT .lost he0),AF (AG (Az hy1) 0)]
 refine Ai (fun hv=>?_) fun hv=>?_
 subst hv
 rintro ⟨⟩
 exact BS Hd.Ac [fq (Ay.DH list)] [none] (Ae 300 (o1++[pi mi0])) (by kernel_rfl) (k [(jv j0 0),.bool true,.bool true,.bool false])
 subst hv
 rintro ⟨⟩
 exact Am Hd.Ac _ _ [] [none] (Ae 300 o1) (by kernel_rfl) (.I5 k)
 rintro w0_0_2 jx_2
 intro h
 have hE:=Option.some.inj h
 obtain ⟨hE0,hF0⟩:=Prod.mk.inj hE
 subst hE0 hF0
 exact Am Hd.Ac _ _ [] [none] (CX 300 []) (by kernel_rfl) .body
mutual
noncomputable def Ao:Nat→Ck→Nd→Int→Option (Bool×Int)
 | 0,_,_,_=>none
 | qn+1,c,n,depth=>BM (Ao qn) (Ax qn) (As qn) (An qn) c n depth
noncomputable def Ax:Nat→Ck→Nd→Int→Option (Bool×Int)
 | 0,_,_,_=>none
 | qn+1,c,n,depth=>Bj (Ao qn) (Ax qn) (As qn) (An qn) c n depth
noncomputable def As:Nat→Ck→Nd→Int→Option (Bool×Int)
 | 0,_,_,_=>none
 | qn+1,c,n,depth=>Bi (Ao qn) (Ax qn) (As qn) (An qn) c n depth
noncomputable def An:Nat→Ck→(List Nd)→Int→Option (Bool×Int)
 | 0,_,_,_=>none
 | qn+1,c,list,depth=>Bo (Ao qn) (Ax qn) (As qn) (An qn) c list depth
end
theorem EL:∀ qn:Nat,(∀ {c:Ck} {n:Nd} {depth:Int} {yR:Bool} {qc_nodesR:Int},Ao qn c n depth=some (yR,qc_nodesR)→Sound P G (.call 49 [.ptr 0 0,.agg (BP n),.sc (.int .i64 depth)] ⟨[(0,.cells (DR c))],1,[],0⟩ (.ret (.sc (.bool yR))) ⟨[(0,.cells [.sc (.int .i64 qc_nodesR)])],1,[],0⟩))∧(∀ {c:Ck} {n:Nd} {depth:Int} {yR:Bool} {qc_nodesR:Int},Ax qn c n depth=some (yR,qc_nodesR)→Sound P G (.call 80 [.ptr 0 0,.agg (BP n),.sc (.int .i64 depth)] ⟨[(0,.cells (DR c))],1,[],0⟩ (.ret (.sc (.bool yR))) ⟨[(0,.cells [.sc (.int .i64 qc_nodesR)])],1,[],0⟩))∧(∀ {c:Ck} {n:Nd} {depth:Int} {yR:Bool} {qc_nodesR:Int},As qn c n depth=some (yR,qc_nodesR)→Sound P G (.call 115 [.ptr 0 0,.agg (BP n),.sc (.int .i64 depth)] ⟨[(0,.cells (DR c))],1,[],0⟩ (.ret (.sc (.bool yR))) ⟨[(0,.cells [.sc (.int .i64 qc_nodesR)])],1,[],0⟩))∧(∀ {c:Ck} {list:(List Nd)} {depth:Int} {yR:Bool} {qc_nodesR:Int},An qn c list depth=some (yR,qc_nodesR)→Sound P G (.call 52 [.ptr 0 0,.sl .lost list.length (AW list),.sc (.int .i64 depth),.fn (.func 49) [.ptr 0 0] []] ⟨[(0,.cells (DR c))],1,[],0⟩ (.ret (.sc (.bool yR))) ⟨[(0,.cells [.sc (.int .i64 qc_nodesR)])],1,[],0⟩)):=by
 intro qn
 induction qn with
 | zero=>exact ⟨(fun h=>by simp only [Ao] at h;cases h),(fun h=>by simp only [Ax] at h;cases h),(fun h=>by simp only [As] at h;cases h),(fun h=>by simp only [An] at h;cases h)⟩
 | succ qn ih=>exact ⟨(fun h=>G5 (Ao qn) (Ax qn) (As qn) (An qn) ih.1 ih.2.1 ih.2.2.1 ih.2.2.2 (by rw [Ao] at h;exact h)),(fun h=>GG (Ao qn) (Ax qn) (As qn) (An qn) ih.1 ih.2.1 ih.2.2.1 ih.2.2.2 (by rw [Ax] at h;exact h)),(fun h=>GF (Ao qn) (Ax qn) (As qn) (An qn) ih.1 ih.2.1 ih.2.2.1 ih.2.2.2 (by rw [As] at h;exact h)),(fun h=>F0 (Ao qn) (Ax qn) (As qn) (An qn) ih.1 ih.2.1 ih.2.2.1 ih.2.2.2 (by rw [An] at h;exact h))⟩
noncomputable def CW (c:Ck) (n:Nd) (depth:Int):Option (Bool×Int):=b6 (fun qn=>Ao qn c n depth)
theorem EP {c:Ck} {n:Nd} {depth:Int} {yR:Bool} {qc_nodesR:Int} (h:CW c n depth=some (yR,qc_nodesR)):Sound P G (.call 49 [.ptr 0 0,.agg (BP n),.sc (.int .i64 depth)] ⟨[(0,.cells (DR c))],1,[],0⟩ (.ret (.sc (.bool yR))) ⟨[(0,.cells [.sc (.int .i64 qc_nodesR)])],1,[],0⟩):=by
 obtain ⟨qn,h⟩:=cO h
 exact (EL qn).1 h
noncomputable def Cp (c:Ck) (n:Nd) (depth:Int):Option (Bool×Int):=b6 (fun qn=>As qn c n depth)
theorem G3 {c:Ck} {n:Nd} {depth:Int} {yR:Bool} {qc_nodesR:Int} (h:Cp c n depth=some (yR,qc_nodesR)):Sound P G (.call 115 [.ptr 0 0,.agg (BP n),.sc (.int .i64 depth)] ⟨[(0,.cells (DR c))],1,[],0⟩ (.ret (.sc (.bool yR))) ⟨[(0,.cells [.sc (.int .i64 qc_nodesR)])],1,[],0⟩):=by
 obtain ⟨qn,h⟩:=cO h
 exact (EL qn).2.2.1 h
noncomputable def vS:Code:=Bp Tryz.f116
theorem tT:Tryz.f116.body=some vS:=by kernel_rfl
noncomputable def CK  (day:Int):Option Bool:=cond (O0 0 day) (cond (O0 day 36524) (some true) (some false)) (some false)
theorem Ej   {day:Int} {yR:Bool} (h:CK  day=some yR):Pure P G 116 [.sc (.int .i64 day)] (.sc (.bool yR)):=by
 unfold CK at h
 refine D0 Hd.mixed Hd.Ac (AZ Tryz.func116 tT ?_) (BI rfl rfl) rfl
 revert h
 refine Ai (fun hb1=>?_) fun hb1=>?_
 refine Ai (fun hb2=>?_) fun hb2=>?_
 rintro ⟨⟩
 exact rS (Ae 300 [pb hb1,pb hb2]) (by kernel_rfl)
 rintro ⟨⟩
 exact rS (Ae 300 [pb hb1,pb hb2]) (by kernel_rfl)
 rintro ⟨⟩
 exact rS (Ae 300 [pb hb1]) (by kernel_rfl)
noncomputable def yS:Code:=Bp Tryz.f83
theorem b83:Tryz.f83.body=some yS:=by kernel_rfl
noncomputable def Ce  (c:Ck) (n:Nd) (depth:Int):Option (Bool×Int):=(A9 c n depth).bind fun (y1a,y1b)=>cond y1a (cond (DM n.kind 5) (cond (Fx n.n 0) (some (false,y1b)) (cond (Fx 1000000 n.n) (some (false,y1b)) (cond (Fx 0 ((n.kids.length:Nat):Int)) (some (false,y1b)) ((CK n.fr).bind fun y2=>cond y2 (cond (O0 n.to n.fr) (some (false,y1b)) (cond (Fx 36525 n.to) (some (false,y1b)) ((CK n.known).bind fun y3=>cond y3 ((AT n (⟨0,ByteArray.empty,ByteArray.empty,n.n,n.fr,n.to,n.known,(⟨0,[]⟩:Fn),[],0⟩:Nd)).bind fun y4=>some (y4,y1b)) (some (false,y1b))))) (some (false,y1b)))))) (some (false,y1b))) (some (false,y1b))
theorem IB {c:Ck} {n:Nd} {depth:Int} {yR:Bool} {qc_nodesR:Int} (hS:Sound P G (.call 83 [.ptr 0 0,.agg (BP n),.sc (.int .i64 depth)] ⟨[(0,.cells (DR c))],1,[],0⟩ (.ret (.sc (.bool yR))) ⟨[(0,.cells [.sc (.int .i64 qc_nodesR)])],1,[],0⟩)) (u0:Nat) (hnb:([u0]:List Nat).Nodup:=by decide) (hnt:([]:List Nat).Nodup:=by decide):Cd.ok P G (.callU 83 [.ptr u0 0,.agg (BP n),.sc (.int .i64 depth)] (.ret (.sc (.bool yR))) [(u0,.cells (DR c))] [] [(u0,.cells [.sc (.int .i64 qc_nodesR)])] []) :=
 D7 (M:=[.cells (DR c)]) (M2:=[.cells [.sc (.int .i64 qc_nodesR)]]) (T:=[]) (T2:=[]) (k:=1) (j:=0) Hd.Ac _ _ _ _ hS rfl rfl rfl rfl rfl hnb hnt rfl rfl (.cons (.cells (.pl (Iw.pl c))) .nil) (.cons (.cells (.pl (BI rfl rfl))) .nil) (.cons (.ptr (by decide)) (.cons (.pl (Ay.Lc n)) (.cons (.pl rfl) .nil))) (.pl rfl) (fun e he=>by simp only [List.mem_singleton] at he;subst he;exact (.arg (.here .ptr)))
theorem Hc   {c:Ck} {n:Nd} {depth:Int} {yR:Bool} {qc_nodesR:Int} (h:Ce  c n depth=some (yR,qc_nodesR)):Sound P G (.call 83 [.ptr 0 0,.agg (BP n),.sc (.int .i64 depth)] ⟨[(0,.cells (DR c))],1,[],0⟩ (.ret (.sc (.bool yR))) ⟨[(0,.cells [.sc (.int .i64 qc_nodesR)])],1,[],0⟩):=by
 unfold Ce at h
 refine D5 Hd.mixed (AZ Tryz.func83 b83 ?_)
 revert h
 refine AD ?_
 rintro ⟨y1a,y1b⟩ hy1
 dsimp only
 let o1:List (PC P G):=[AF (Cb (BQ hy1) 0)]
 refine Ai (fun hv=>?_) fun hv=>?_
 subst hv
 refine Ai (fun hb1=>?_) fun hb1=>?_
 refine Ai (fun hb2=>?_) fun hb2=>?_
 intro h
 have hE:=Option.some.inj h
 obtain ⟨hE0,hF0⟩:=Prod.mk.inj hE
 subst hE0 hF0
 exact Am Hd.Ac _ _ [] [none] (Ae 300 (o1++[pn hb1,pb hb2])) (by kernel_rfl) .body
 let o2:List (PC P G):=o1++[pn hb1,pb hb2]
 refine Ai (fun hb3=>?_) fun hb3=>?_
 intro h
 have hE:=Option.some.inj h
 obtain ⟨hE0,hF0⟩:=Prod.mk.inj hE
 subst hE0 hF0
 exact Am Hd.Ac _ _ [] [none] (Ae 300 (o2++[pb hb3])) (by kernel_rfl) .body
 refine Ai (fun hb4=>?_) fun hb4=>?_
 intro h
 have hE:=Option.some.inj h
 obtain ⟨hE0,hF0⟩:=Prod.mk.inj hE
 subst hE0 hF0
 exact Am Hd.Ac _ _ [] [none] (Ae 300 (o2++[pb hb3,pb hb4])) (by kernel_rfl) .body
 refine AD fun y2 hy2=>?_
 let o3:List (PC P G):=o2++[pb hb3,pb hb4,Bk (Ej hy2)]
 refine Ai (fun hv=>?_) fun hv=>?_
 subst hv
 refine Ai (fun hb5=>?_) fun hb5=>?_
 intro h
 have hE:=Option.some.inj h
 obtain ⟨hE0,hF0⟩:=Prod.mk.inj hE
 subst hE0 hF0
 exact Am Hd.Ac _ _ [] [none] (Ae 300 (o3++[pb hb5])) (by kernel_rfl) .body
 refine Ai (fun hb6=>?_) fun hb6=>?_
 intro h
 have hE:=Option.some.inj h
 obtain ⟨hE0,hF0⟩:=Prod.mk.inj hE
 subst hE0 hF0
 exact Am Hd.Ac _ _ [] [none] (Ae 300 (o3++[pb hb5,pb hb6])) (by kernel_rfl) .body
 refine AD fun y3 hy3=>?_
 refine Ai (fun hv=>?_) fun hv=>?_
 subst hv
 refine AD fun y4 hy4=>?_
 intro h
 have hE:=Option.some.inj h
 obtain ⟨hE0,hF0⟩:=Prod.mk.inj hE
 subst hE0 hF0
 exact Am Hd.Ac _ _ [] [none] (Ae 300 (o3++[pb hb5,pb hb6,Bk (Ej hy3),Ek (.r (.g (.r (.r (.r (.r (.r (.r (.r (.r (.z (.z (.r .nil))))))))))) .nil)) (AQ hy4)])) (by kernel_rfl) .body
 subst hv
 intro h
 have hE:=Option.some.inj h
 obtain ⟨hE0,hF0⟩:=Prod.mk.inj hE
 subst hE0 hF0
 exact Am Hd.Ac _ _ [] [none] (Ae 300 (o3++[pb hb5,pb hb6,Bk (Ej hy3)])) (by kernel_rfl) .body
 subst hv
 intro h
 have hE:=Option.some.inj h
 obtain ⟨hE0,hF0⟩:=Prod.mk.inj hE
 subst hE0 hF0
 exact Am Hd.Ac _ _ [] [none] (Ae 300 o3) (by kernel_rfl) .body
 intro h
 have hE:=Option.some.inj h
 obtain ⟨hE0,hF0⟩:=Prod.mk.inj hE
 subst hE0 hF0
 exact Am Hd.Ac _ _ [] [none] (Ae 300 (o1++[pn hb1])) (by kernel_rfl) .body
 subst hv
 intro h
 have hE:=Option.some.inj h
 obtain ⟨hE0,hF0⟩:=Prod.mk.inj hE
 subst hE0 hF0
 exact Am Hd.Ac _ _ [] [none] (Ae 300 o1) (by kernel_rfl) .body
noncomputable def Cz  (depth:Int) (i0:Nat) (e0:Nd) (w0_0:Int):Option (Lp Int Int (Bool×Int)):=(Cp (⟨w0_0⟩:Ck) e0 depth).bind fun (y1a,y1b)=>cond y1a (some (.nx y1b)) (some (.rt (false,y1b)))
noncomputable def BY  (c:Ck) (list:(List Nd)) (depth:Int):Option (Bool×Int):=(IZ list.length (A2 (fun i y x=>Cz  depth i y x) (fun x=>x) (list.drop 0) 0 c.nodes)).bind (JA (fun (w0_0_2:Int)=>some (true,w0_0_2)) (fun v=>some v))
theorem Gb {c:Ck} {list:(List Nd)} {depth:Int} {yR:Bool} {qc_nodesR:Int} (hS:Sound P G (.call 52 [.ptr 0 0,.sl .lost list.length (AW list),.sc (.int .i64 depth),.fn (.func 115) [.ptr 0 0] []] ⟨[(0,.cells (DR c))],1,[],0⟩ (.ret (.sc (.bool yR))) ⟨[(0,.cells [.sc (.int .i64 qc_nodesR)])],1,[],0⟩)) (u0:Nat) (hnb:([u0]:List Nat).Nodup:=by decide) (hnt:([]:List Nat).Nodup:=by decide):Cd.ok P G (.callU 52 [.ptr u0 0,.sl .lost list.length (AW list),.sc (.int .i64 depth),.fn (.func 115) [.ptr u0 0] []] (.ret (.sc (.bool yR))) [(u0,.cells (DR c))] [] [(u0,.cells [.sc (.int .i64 qc_nodesR)])] []) :=
 D7 (M:=[.cells (DR c)]) (M2:=[.cells [.sc (.int .i64 qc_nodesR)]]) (T:=[]) (T2:=[]) (k:=1) (j:=0) Hd.Ac _ _ _ _ hS rfl rfl rfl rfl rfl hnb hnt rfl rfl (.cons (.cells (.pl (Iw.pl c))) .nil) (.cons (.cells (.pl (BI rfl rfl))) .nil) (.cons (.ptr (by decide)) (.cons (.pl (Ay.DH list)) (.cons (.pl rfl) (.cons (.fn (.cons (.ptr (by decide)) .nil) (.pl rfl)) .nil)))) (.pl rfl) (fun e he=>by simp only [List.mem_singleton] at he;subst he;exact (.arg (.here .ptr)))
theorem Fk   {c:Ck} {list:(List Nd)} {depth:Int} {yR:Bool} {qc_nodesR:Int} (h:BY  c list depth=some (yR,qc_nodesR)):Sound P G (.call 52 [.ptr 0 0,.sl .lost list.length (AW list),.sc (.int .i64 depth),.fn (.func 115) [.ptr 0 0] []] ⟨[(0,.cells (DR c))],1,[],0⟩ (.ret (.sc (.bool yR))) ⟨[(0,.cells [.sc (.int .i64 qc_nodesR)])],1,[],0⟩):=by
 unfold BY at h
 refine D5 Hd.mixed (AZ Tryz.func52 sR ?_)
 revert h
 refine GM (fun Q v=>Hs P G Tryz.f52 1 ⟨[(0,.cells (DR c))],1,[],0⟩ Q (.sc (.bool v.1)) ⟨[(0,.cells [.sc (.int .i64 v.2)])],1,[],0⟩) (fun i0 (w0_0:Int) (j0:List Value)=>fr 23 [(2,.sc (.int .i64 depth)),(3,.fn (.func 115) [.ptr 0 0] []),(11,.sl .lost list.length (AW list)),(12,.sc (.int .i64 ((list.length:Nat):Int))),(13,.sc (.int .i64 ((i0:Nat):Int)))] [8,14,20,21] j0) (fun (w0_0:Int)=>⟨[(0,.cells [.sc (.int .i64 w0_0)])],1,[],0⟩) (fun (w0_0:Int) (jx:List Value)=>fr 23 [] [8,14,20,21] jx) (fun (w0_0:Int)=>⟨[(0,.cells [.sc (.int .i64 w0_0)])],1,[],0⟩) [.bool false] (GC [] 0 (sb ZT 52) [.code (sb ZT 7)] (Ae 300 []) (by kernel_rfl)) ?_ ?_ ?_ (fun v h=>by cases h;exact .outer .body)
 rintro i0 w0_0 j0 hge hq
 exact DQ (Ae 300 [pb (Mj hge)]) (by kernel_rfl) (hq (js 4 j0 [(1,.bool false)]))
 rintro i0 e0 w0_0 j0 r he0 hi0 mi0 k
 show Cz  depth i0 e0 w0_0=some r→_
 unfold Cz
 refine AD ?_
 rintro ⟨y1a,y1b⟩ hy1
 dsimp only
 let o1:List (PC P G):=[pb (Jb hi0),Em (DT .lost he0),AF (EJ (G3 hy1) 0)]
 refine Ai (fun hv=>?_) fun hv=>?_
 subst hv
 rintro ⟨⟩
 exact BS Hd.Ac [fq (Ay.DH list)] [none] (Ae 300 (o1++[pi mi0])) (by kernel_rfl) (k [(jv j0 0),.bool true,.bool true,.bool false])
 subst hv
 rintro ⟨⟩
 exact Am Hd.Ac _ _ [] [none] (Ae 300 o1) (by kernel_rfl) (.I5 k)
 rintro w0_0_2 jx_2
 intro h
 have hE:=Option.some.inj h
 obtain ⟨hE0,hF0⟩:=Prod.mk.inj hE
 subst hE0 hF0
 exact Am Hd.Ac _ _ [] [none] (CX 300 []) (by kernel_rfl) .body
noncomputable def B84:Code:=Bp Tryz.f84
theorem b84:Tryz.f84.body=some B84:=by kernel_rfl
noncomputable def Bw  (c:Ck) (n:Nd) (depth:Int):Option (Bool×Int):=(A9 c n depth).bind fun (y1a,y1b)=>cond y1a ((AT n (⟨0,ByteArray.empty,ByteArray.empty,0,0,0,0,(⟨0,[]⟩:Fn),[],0⟩:Nd)).bind fun y2=>cond y2 (cond (DM n.kind 7) (cond (Fx 0 ((n.kids.length:Nat):Int)) ((BY (⟨y1b⟩:Ck) n.kids (Bz depth 1)).bind fun (y3a,y3b)=>some (y3a,y3b)) (some (false,y1b))) (cond (DM ((n.kids.length:Nat):Int) 1) ((n.kids[0]?).bind fun x4=>(CW (⟨y1b⟩:Ck) x4 (Bz depth 1)).bind fun (y5a,y5b)=>some (y5a,y5b)) (some (false,y1b)))) (some (false,y1b))) (some (false,y1b))
theorem Hu {c:Ck} {n:Nd} {depth:Int} {yR:Bool} {qc_nodesR:Int} (hS:Sound P G (.call 84 [.ptr 0 0,.agg (BP n),.sc (.int .i64 depth)] ⟨[(0,.cells (DR c))],1,[],0⟩ (.ret (.sc (.bool yR))) ⟨[(0,.cells [.sc (.int .i64 qc_nodesR)])],1,[],0⟩)) (u0:Nat) (hnb:([u0]:List Nat).Nodup:=by decide) (hnt:([]:List Nat).Nodup:=by decide):Cd.ok P G (.callU 84 [.ptr u0 0,.agg (BP n),.sc (.int .i64 depth)] (.ret (.sc (.bool yR))) [(u0,.cells (DR c))] [] [(u0,.cells [.sc (.int .i64 qc_nodesR)])] []) :=
 D7 (M:=[.cells (DR c)]) (M2:=[.cells [.sc (.int .i64 qc_nodesR)]]) (T:=[]) (T2:=[]) (k:=1) (j:=0) Hd.Ac _ _ _ _ hS rfl rfl rfl rfl rfl hnb hnt rfl rfl (.cons (.cells (.pl (Iw.pl c))) .nil) (.cons (.cells (.pl (BI rfl rfl))) .nil) (.cons (.ptr (by decide)) (.cons (.pl (Ay.Lc n)) (.cons (.pl rfl) .nil))) (.pl rfl) (fun e he=>by simp only [List.mem_singleton] at he;subst he;exact (.arg (.here .ptr)))
theorem Gt   {c:Ck} {n:Nd} {depth:Int} {yR:Bool} {qc_nodesR:Int} (h:Bw  c n depth=some (yR,qc_nodesR)):Sound P G (.call 84 [.ptr 0 0,.agg (BP n),.sc (.int .i64 depth)] ⟨[(0,.cells (DR c))],1,[],0⟩ (.ret (.sc (.bool yR))) ⟨[(0,.cells [.sc (.int .i64 qc_nodesR)])],1,[],0⟩):=by
 unfold Bw at h
 refine D5 Hd.mixed (AZ Tryz.func84 b84 ?_)
 revert h
 refine AD ?_
 rintro ⟨y1a,y1b⟩ hy1
 dsimp only
 let o1:List (PC P G):=[AF (Cb (BQ hy1) 0)]
 refine Ai (fun hv=>?_) fun hv=>?_
 subst hv
 refine AD fun y2 hy2=>?_
 let o2:List (PC P G):=o1++[Ek (.r (.g (.r (.r (.r (.r (.r (.r (.r (.r (.z (.z (.r .nil))))))))))) .nil)) (AQ hy2)]
 refine Ai (fun hv=>?_) fun hv=>?_
 subst hv
 refine Ai (fun hb1=>?_) fun hb1=>?_
 refine Ai (fun hb2=>?_) fun hb2=>?_
 refine AD ?_
 rintro ⟨y3a,y3b⟩ hy3
 dsimp only
 intro h
 have hE:=Option.some.inj h
 obtain ⟨hE0,hF0⟩:=Prod.mk.inj hE
 subst hE0 hF0
 exact Am Hd.Ac _ _ [] [none] (Ae 300 (o2++[pb hb1,pb hb2,pk,AF (Gb (Fk hy3) 0)])) (by kernel_rfl) .body
 intro h
 have hE:=Option.some.inj h
 obtain ⟨hE0,hF0⟩:=Prod.mk.inj hE
 subst hE0 hF0
 exact Am Hd.Ac _ _ [] [none] (Ae 300 (o2++[pb hb1,pb hb2])) (by kernel_rfl) .body
 refine Ai (fun hb3=>?_) fun hb3=>?_
 refine AD fun x4 hx4=>?_
 refine AD ?_
 rintro ⟨y5a,y5b⟩ hy5
 dsimp only
 intro h
 have hE:=Option.some.inj h
 obtain ⟨hE0,hF0⟩:=Prod.mk.inj hE
 subst hE0 hF0
 exact Am Hd.Ac _ _ [] [none] (Ae 300 (o2++[pb hb1,pb hb3,Em (DT .lost hx4),pk,AF (AG (EP hy5) 0)])) (by kernel_rfl) .body
 intro h
 have hE:=Option.some.inj h
 obtain ⟨hE0,hF0⟩:=Prod.mk.inj hE
 subst hE0 hF0
 exact Am Hd.Ac _ _ [] [none] (Ae 300 (o2++[pb hb1,pb hb3])) (by kernel_rfl) .body
 subst hv
 intro h
 have hE:=Option.some.inj h
 obtain ⟨hE0,hF0⟩:=Prod.mk.inj hE
 subst hE0 hF0
 exact Am Hd.Ac _ _ [] [none] (Ae 300 o2) (by kernel_rfl) .body
 subst hv
 intro h
 have hE:=Option.some.inj h
 obtain ⟨hE0,hF0⟩:=Prod.mk.inj hE
 subst hE0 hF0
 exact Am Hd.Ac _ _ [] [none] (Ae 300 o1) (by kernel_rfl) .body
noncomputable def Cy  (depth:Int) (i0:Nat) (e0:Nd) (w0_0:Int):Option (Lp Int Int (Bool×Int)):=(Bw (⟨w0_0⟩:Ck) e0 depth).bind fun (y1a,y1b)=>cond y1a (some (.nx y1b)) (some (.rt (false,y1b)))
noncomputable def BX  (c:Ck) (list:(List Nd)) (depth:Int):Option (Bool×Int):=(IZ list.length (A2 (fun i y x=>Cy  depth i y x) (fun x=>x) (list.drop 0) 0 c.nodes)).bind (JA (fun (w0_0_2:Int)=>some (true,w0_0_2)) (fun v=>some v))
theorem Gd {c:Ck} {list:(List Nd)} {depth:Int} {yR:Bool} {qc_nodesR:Int} (hS:Sound P G (.call 52 [.ptr 0 0,.sl .lost list.length (AW list),.sc (.int .i64 depth),.fn (.func 84) [.ptr 0 0] []] ⟨[(0,.cells (DR c))],1,[],0⟩ (.ret (.sc (.bool yR))) ⟨[(0,.cells [.sc (.int .i64 qc_nodesR)])],1,[],0⟩)) (u0:Nat) (hnb:([u0]:List Nat).Nodup:=by decide) (hnt:([]:List Nat).Nodup:=by decide):Cd.ok P G (.callU 52 [.ptr u0 0,.sl .lost list.length (AW list),.sc (.int .i64 depth),.fn (.func 84) [.ptr u0 0] []] (.ret (.sc (.bool yR))) [(u0,.cells (DR c))] [] [(u0,.cells [.sc (.int .i64 qc_nodesR)])] []) :=
 D7 (M:=[.cells (DR c)]) (M2:=[.cells [.sc (.int .i64 qc_nodesR)]]) (T:=[]) (T2:=[]) (k:=1) (j:=0) Hd.Ac _ _ _ _ hS rfl rfl rfl rfl rfl hnb hnt rfl rfl (.cons (.cells (.pl (Iw.pl c))) .nil) (.cons (.cells (.pl (BI rfl rfl))) .nil) (.cons (.ptr (by decide)) (.cons (.pl (Ay.DH list)) (.cons (.pl rfl) (.cons (.fn (.cons (.ptr (by decide)) .nil) (.pl rfl)) .nil)))) (.pl rfl) (fun e he=>by simp only [List.mem_singleton] at he;subst he;exact (.arg (.here .ptr)))
theorem Fq   {c:Ck} {list:(List Nd)} {depth:Int} {yR:Bool} {qc_nodesR:Int} (h:BX  c list depth=some (yR,qc_nodesR)):Sound P G (.call 52 [.ptr 0 0,.sl .lost list.length (AW list),.sc (.int .i64 depth),.fn (.func 84) [.ptr 0 0] []] ⟨[(0,.cells (DR c))],1,[],0⟩ (.ret (.sc (.bool yR))) ⟨[(0,.cells [.sc (.int .i64 qc_nodesR)])],1,[],0⟩):=by
 unfold BX at h
 refine D5 Hd.mixed (AZ Tryz.func52 sR ?_)
 revert h
 refine GM (fun Q v=>Hs P G Tryz.f52 1 ⟨[(0,.cells (DR c))],1,[],0⟩ Q (.sc (.bool v.1)) ⟨[(0,.cells [.sc (.int .i64 v.2)])],1,[],0⟩) (fun i0 (w0_0:Int) (j0:List Value)=>fr 23 [(2,.sc (.int .i64 depth)),(3,.fn (.func 84) [.ptr 0 0] []),(11,.sl .lost list.length (AW list)),(12,.sc (.int .i64 ((list.length:Nat):Int))),(13,.sc (.int .i64 ((i0:Nat):Int)))] [8,14,20,21] j0) (fun (w0_0:Int)=>⟨[(0,.cells [.sc (.int .i64 w0_0)])],1,[],0⟩) (fun (w0_0:Int) (jx:List Value)=>fr 23 [] [8,14,20,21] jx) (fun (w0_0:Int)=>⟨[(0,.cells [.sc (.int .i64 w0_0)])],1,[],0⟩) [.bool false] (GC [] 0 (sb ZT 52) [.code (sb ZT 7)] (Ae 300 []) (by kernel_rfl)) ?_ ?_ ?_ (fun v h=>by cases h;exact .outer .body)
 rintro i0 w0_0 j0 hge hq
 exact DQ (Ae 300 [pb (Mj hge)]) (by kernel_rfl) (hq (js 4 j0 [(1,.bool false)]))
 rintro i0 e0 w0_0 j0 r he0 hi0 mi0 k
 show Cy  depth i0 e0 w0_0=some r→_
 unfold Cy
 refine AD ?_
 rintro ⟨y1a,y1b⟩ hy1
 dsimp only
 let o1:List (PC P G):=[pb (Jb hi0),Em (DT .lost he0),AF (Hu (Gt hy1) 0)]
 refine Ai (fun hv=>?_) fun hv=>?_
 subst hv
 rintro ⟨⟩
 exact BS Hd.Ac [fq (Ay.DH list)] [none] (Ae 300 (o1++[pi mi0])) (by kernel_rfl) (k [(jv j0 0),.bool true,.bool true,.bool false])
 subst hv
 rintro ⟨⟩
 exact Am Hd.Ac _ _ [] [none] (Ae 300 o1) (by kernel_rfl) (.I5 k)
 rintro w0_0_2 jx_2
 intro h
 have hE:=Option.some.inj h
 obtain ⟨hE0,hF0⟩:=Prod.mk.inj hE
 subst hE0 hF0
 exact Am Hd.Ac _ _ [] [none] (CX 300 []) (by kernel_rfl) .body
noncomputable def sT:Code:=Bp Tryz.f53
theorem zG:Tryz.f53.body=some sT:=by kernel_rfl
noncomputable def BF  (y1b:Int) (i0:Nat) (e0:Nd) (w2_6:Int) (w2_7:Int) (w2_8:Int):Option (Lp (Int×Int×Int) (Int×Int×Int) (Bool×Int)):=cond (Fx e0.kind 6) (some (.rt (false,y1b))) (cond (Fx 8 e0.kind) (some (.rt (false,y1b))) (cond (DM e0.kind 6) (some (.nx ((Bz w2_6 1),w2_7,w2_8))) (cond (DM e0.kind 7) (some (.nx (w2_6,(Bz w2_7 1),w2_8))) (cond (DM e0.kind 8) (some (.nx (w2_6,w2_7,(Bz w2_8 1)))) (none)))))
noncomputable def BN  (c:Ck) (n:Nd) (depth:Int):Option (Bool×Int):=(A9 c n depth).bind fun (y1a,y1b)=>cond y1a (cond (DM n.kind 2) ((BL n.name).bind fun y2=>cond y2 ((B5 n.unit).bind fun y3=>cond y3 (cond (DM ((n.kids.length:Nat):Int) 0) ((AT n (⟨0,n.name,n.unit,0,0,0,0,(⟨0,[]⟩:Fn),[],0⟩:Nd)).bind fun y4=>some (y4,y1b)) (some (false,y1b))) (some (false,y1b))) (some (false,y1b))) (cond (DM n.kind 3) ((BL n.name).bind fun y5=>cond y5 ((B5 n.unit).bind fun y6=>cond y6 (cond (O0 1 n.n) (cond (O0 n.n 4) (cond (DM ((n.kids.length:Nat):Int) 0) ((AT n (⟨0,n.name,n.unit,n.n,0,0,0,(⟨0,[]⟩:Fn),[],0⟩:Nd)).bind fun y7=>some (y7,y1b)) (some (false,y1b))) (some (false,y1b))) (some (false,y1b))) (some (false,y1b))) (some (false,y1b))) (cond (DM n.kind 4) ((BB n.n).bind fun y8=>cond y8 ((BL n.name).bind fun y9=>cond y9 ((AT n (⟨0,n.name,ByteArray.empty,n.n,0,0,0,(⟨0,[]⟩:Fn),[],0⟩:Nd)).bind fun y10=>cond y10 (cond (DM ((n.kids.length:Nat):Int) 0) (some (false,y1b)) ((LS n.kids 1 ((n.kids.length:Nat):Int)).bind fun l11=>(IZ l11.length (A2 (fun i y x=>BF  y1b i y x.1 x.2.1 x.2.2) (fun x=>(x.1,x.2.1,x.2.2)) (l11.drop 0) 0 (0,0,0))).bind (JA (fun ((w2_6_12,w2_7_12,w2_8_12):(Int×Int×Int))=>cond (DM w2_8_12 1) (cond (Fx 1 w2_7_12) (some (false,y1b)) ((n.kids[0]?).bind fun x13=>(Ce (⟨y1b⟩:Ck) x13 (Bz depth 1)).bind fun (y14a,y14b)=>cond y14a ((BX (⟨y14b⟩:Ck) l11 (Bz depth 1)).bind fun (y15a,y15b)=>some (y15a,y15b)) (some (false,y14b)))) (some (false,y1b))) (fun v=>some v)))) (some (false,y1b))) (some (false,y1b))) (some (false,y1b))) (some (false,y1b))))) (some (false,y1b))
theorem Iz {c:Ck} {n:Nd} {depth:Int} {yR:Bool} {qc_nodesR:Int} (hS:Sound P G (.call 53 [.ptr 0 0,.agg (BP n),.sc (.int .i64 depth)] ⟨[(0,.cells (DR c))],1,[],0⟩ (.ret (.sc (.bool yR))) ⟨[(0,.cells [.sc (.int .i64 qc_nodesR)])],1,[],0⟩)) (u0:Nat) (hnb:([u0]:List Nat).Nodup:=by decide) (hnt:([]:List Nat).Nodup:=by decide):Cd.ok P G (.callU 53 [.ptr u0 0,.agg (BP n),.sc (.int .i64 depth)] (.ret (.sc (.bool yR))) [(u0,.cells (DR c))] [] [(u0,.cells [.sc (.int .i64 qc_nodesR)])] []) :=
 D7 (M:=[.cells (DR c)]) (M2:=[.cells [.sc (.int .i64 qc_nodesR)]]) (T:=[]) (T2:=[]) (k:=1) (j:=0) Hd.Ac _ _ _ _ hS rfl rfl rfl rfl rfl hnb hnt rfl rfl (.cons (.cells (.pl (Iw.pl c))) .nil) (.cons (.cells (.pl (BI rfl rfl))) .nil) (.cons (.ptr (by decide)) (.cons (.pl (Ay.Lc n)) (.cons (.pl rfl) .nil))) (.pl rfl) (fun e he=>by simp only [List.mem_singleton] at he;subst he;exact (.arg (.here .ptr)))
theorem G9   {c:Ck} {n:Nd} {depth:Int} {yR:Bool} {qc_nodesR:Int} (h:BN  c n depth=some (yR,qc_nodesR)):Sound P G (.call 53 [.ptr 0 0,.agg (BP n),.sc (.int .i64 depth)] ⟨[(0,.cells (DR c))],1,[],0⟩ (.ret (.sc (.bool yR))) ⟨[(0,.cells [.sc (.int .i64 qc_nodesR)])],1,[],0⟩):=by
 unfold BN at h
 refine D5 Hd.mixed (AZ Tryz.func53 zG ?_)
 revert h
 refine AD ?_
 rintro ⟨y1a,y1b⟩ hy1
 dsimp only
 let o1:List (PC P G):=[AF (Cb (BQ hy1) 0)]
 refine Ai (fun hv=>?_) fun hv=>?_
 subst hv
 refine Ai (fun hb1=>?_) fun hb1=>?_
 refine AD fun y2 hy2=>?_
 let o2:List (PC P G):=o1++[pb hb1,Bk (C2 hy2)]
 refine Ai (fun hv=>?_) fun hv=>?_
 subst hv
 refine AD fun y3 hy3=>?_
 refine Ai (fun hv=>?_) fun hv=>?_
 subst hv
 refine Ai (fun hb2=>?_) fun hb2=>?_
 refine AD fun y4 hy4=>?_
 intro h
 have hE:=Option.some.inj h
 obtain ⟨hE0,hF0⟩:=Prod.mk.inj hE
 subst hE0 hF0
 exact Am Hd.Ac _ _ [] [none] (Ae 300 (o2++[Bk (Cn hy3),pb hb2,Ek (.r (.g (.r (.r (.r (.r (.r (.r (.r (.r (.z (.z (.r .nil))))))))))) .nil)) (AQ hy4)])) (by kernel_rfl) .body
 intro h
 have hE:=Option.some.inj h
 obtain ⟨hE0,hF0⟩:=Prod.mk.inj hE
 subst hE0 hF0
 exact Am Hd.Ac _ _ [] [none] (Ae 300 (o2++[Bk (Cn hy3),pb hb2])) (by kernel_rfl) .body
 subst hv
 intro h
 have hE:=Option.some.inj h
 obtain ⟨hE0,hF0⟩:=Prod.mk.inj hE
 subst hE0 hF0
 exact Am Hd.Ac _ _ [] [none] (Ae 300 (o2++[Bk (Cn hy3)])) (by kernel_rfl) .body
 subst hv
 intro h
 have hE:=Option.some.inj h
 obtain ⟨hE0,hF0⟩:=Prod.mk.inj hE
 subst hE0 hF0
 exact Am Hd.Ac _ _ [] [none] (Ae 300 o2) (by kernel_rfl) .body
 let o3:List (PC P G):=o1++[pb hb1]
 refine Ai (fun hb3=>?_) fun hb3=>?_
 refine AD fun y5 hy5=>?_
 let o4:List (PC P G):=o3++[pb hb3,Bk (C2 hy5)]
 refine Ai (fun hv=>?_) fun hv=>?_
 subst hv
 refine AD fun y6 hy6=>?_
 let o5:List (PC P G):=o4++[Bk (Cn hy6)]
 refine Ai (fun hv=>?_) fun hv=>?_
 subst hv
 refine Ai (fun hb4=>?_) fun hb4=>?_
 refine Ai (fun hb5=>?_) fun hb5=>?_
 refine Ai (fun hb6=>?_) fun hb6=>?_
 refine AD fun y7 hy7=>?_
 intro h
 have hE:=Option.some.inj h
 obtain ⟨hE0,hF0⟩:=Prod.mk.inj hE
 subst hE0 hF0
 exact Am Hd.Ac _ _ [] [none] (Ae 300 (o5++[pb hb4,pb hb5,pb hb6,Ek (.r (.g (.r (.r (.r (.r (.r (.r (.r (.r (.z (.z (.r .nil))))))))))) .nil)) (AQ hy7)])) (by kernel_rfl) .body
 intro h
 have hE:=Option.some.inj h
 obtain ⟨hE0,hF0⟩:=Prod.mk.inj hE
 subst hE0 hF0
 exact Am Hd.Ac _ _ [] [none] (Ae 300 (o5++[pb hb4,pb hb5,pb hb6])) (by kernel_rfl) .body
 intro h
 have hE:=Option.some.inj h
 obtain ⟨hE0,hF0⟩:=Prod.mk.inj hE
 subst hE0 hF0
 exact Am Hd.Ac _ _ [] [none] (Ae 300 (o5++[pb hb4,pb hb5])) (by kernel_rfl) .body
 intro h
 have hE:=Option.some.inj h
 obtain ⟨hE0,hF0⟩:=Prod.mk.inj hE
 subst hE0 hF0
 exact Am Hd.Ac _ _ [] [none] (Ae 300 (o5++[pb hb4])) (by kernel_rfl) .body
 subst hv
 intro h
 have hE:=Option.some.inj h
 obtain ⟨hE0,hF0⟩:=Prod.mk.inj hE
 subst hE0 hF0
 exact Am Hd.Ac _ _ [] [none] (Ae 300 o5) (by kernel_rfl) .body
 subst hv
 intro h
 have hE:=Option.some.inj h
 obtain ⟨hE0,hF0⟩:=Prod.mk.inj hE
 subst hE0 hF0
 exact Am Hd.Ac _ _ [] [none] (Ae 300 o4) (by kernel_rfl) .body
 refine Ai (fun hb7=>?_) fun hb7=>?_
 refine AD fun y8 hy8=>?_
 let o6:List (PC P G):=o3++[pb hb3,pb hb7,Bk (CU hy8)]
 refine Ai (fun hv=>?_) fun hv=>?_
 subst hv
 refine AD fun y9 hy9=>?_
 let o7:List (PC P G):=o6++[Bk (C2 hy9)]
 refine Ai (fun hv=>?_) fun hv=>?_
 subst hv
 refine AD fun y10 hy10=>?_
 let o8:List (PC P G):=o7++[Ek (.r (.g (.r (.r (.r (.r (.r (.r (.r (.r (.z (.z (.r .nil))))))))))) .nil)) (AQ hy10)]
 refine Ai (fun hv=>?_) fun hv=>?_
 subst hv
 refine Ai (fun hb8=>?_) fun hb8=>?_
 intro h
 have hE:=Option.some.inj h
 obtain ⟨hE0,hF0⟩:=Prod.mk.inj hE
 subst hE0 hF0
 exact Am Hd.Ac _ _ [] [none] (Ae 300 (o8++[pb hb8])) (by kernel_rfl) .body
 refine AD fun l11 hl11=>?_
 refine GM (fun Q v=>Hs P G Tryz.f53 1 ⟨[(0,.cells (DR c))],1,[],0⟩ Q (.sc (.bool v.1)) ⟨[(0,.cells [.sc (.int .i64 v.2)])],1,[],0⟩) (fun i0 ((w2_6,w2_7,w2_8):(Int×Int×Int)) (j0:List Value)=>fr 158 [(0,.ptr 0 0),(2,.sc (.int .i64 depth)),(4,.ptr 1 0),(7,.ptr 2 0),(110,.sl .lost l11.length (AW l11)),(111,.sc (.int .i64 ((l11.length:Nat):Int))),(112,.sc (.int .i64 ((i0:Nat):Int)))] [6,13,14,17,18,21,22,25,26,27,31,32,33,40,41,42,43,46,47,50,51,52,55,56,57,60,61,62,66,67,68,77,78,79,80,83,84,85,88,89,90,91,98,99,100,101,105,106,113,118,119,122,123,133,134,137,138,146,147,156,157] j0) (fun ((w2_6,w2_7,w2_8):(Int×Int×Int))=>⟨[(2,.cells [.sc (.int .i64 0),.sc (.int .i64 0),.sc (.int .i64 0),.sc (.int .i64 0),.sc (.int .i64 0),.sc (.int .i64 0),.sc (.int .i64 w2_6),.sc (.int .i64 w2_7),.sc (.int .i64 w2_8)]),(1,.cells (BP n)),(0,.cells [.sc (.int .i64 y1b)])],3,[],0⟩) (fun ((w2_6,w2_7,w2_8):(Int×Int×Int)) (jx:List Value)=>fr 158 [(0,.ptr 0 0),(2,.sc (.int .i64 depth)),(4,.ptr 1 0),(7,.ptr 2 0)] [6,13,14,17,18,21,22,25,26,27,31,32,33,40,41,42,43,46,47,50,51,52,55,56,57,60,61,62,66,67,68,77,78,79,80,83,84,85,88,89,90,91,98,99,100,101,105,106,113,118,119,122,123,133,134,137,138,146,147,156,157] jx) (fun ((w2_6,w2_7,w2_8):(Int×Int×Int))=>⟨[(2,.cells [.sc (.int .i64 0),.sc (.int .i64 0),.sc (.int .i64 0),.sc (.int .i64 0),.sc (.int .i64 0),.sc (.int .i64 0),.sc (.int .i64 w2_6),.sc (.int .i64 w2_7),.sc (.int .i64 w2_8)]),(1,.cells (BP n)),(0,.cells [.sc (.int .i64 y1b)])],3,[],0⟩) [.bool false,.bool true,.bool false,.bool false,.bool false,undef,undef,undef,undef,undef,undef,undef,undef,undef,undef,.bool false,.bool false,undef,undef,undef,undef,undef,undef,undef,undef,undef,undef,undef,undef,undef,undef,undef,undef,.bool true,.bool true,.bool true,.bool false,.bool false,.bool true,.bool false,.bool false,.bool false,.bool true,.bool false,.bool false,.bool false,.bool false,.bool false] (GC [] 1 (sb sT 241588) [.code (sb sT 30199),.endb 0,.code (sb sT 15)] (Ae 300 (o8++[pb hb8,R9 (Iu hl11)])) (by kernel_rfl)) ?_ ?_ ?_ (fun v h=>by cases h;exact .outer .body)
 rintro i0 ⟨w2_6,w2_7,w2_8⟩ j0 hge hq
 exact DQ (Ae 300 [pb (Mj hge)]) (by kernel_rfl) (hq (js 61 j0 [(48,.bool false)]))
 rintro i0 e0 ⟨w2_6,w2_7,w2_8⟩ j0 r he0 hi0 mi0 k
 show BF  y1b i0 e0 w2_6 w2_7 w2_8=some r→_
 unfold BF
 let o9:List (PC P G):=[pb (Jb hi0),Em (DT .lost he0)]
 refine Ai (fun hb9=>?_) fun hb9=>?_
 rintro ⟨⟩
 exact Am Hd.Ac _ _ [] [none] (Ae 300 (o9++[pb hb9])) (by kernel_rfl) (.I5 k)
 refine Ai (fun hb10=>?_) fun hb10=>?_
 rintro ⟨⟩
 exact Am Hd.Ac _ _ [] [none] (Ae 300 (o9++[pb hb9,pb hb10])) (by kernel_rfl) (.I5 k)
 refine Ai (fun hb11=>?_) fun hb11=>?_
 rintro ⟨⟩
 exact BS Hd.Ac [fq (Ay.DH l11)] [none,bp (Ay.pl n),none] (Ae 300 (o9++[pb hb9,pb hb10,Em (t:=119) (a:=.ptr 2 0) (b:=.sc (.int .i64 e0.kind)) (v:=.ptr 2 6) (by rw [FE hb11];kernel_rfl),pk,Em (t:=119) (a:=.ptr 2 0) (b:=.sc (.int .i64 e0.kind)) (v:=.ptr 2 6) (by rw [FE hb11];kernel_rfl),pi mi0])) (by kernel_rfl) (k (js 61 j0 [(48,.bool true),(49,.bool false),(50,.bool false),(51,.bool false),(52,.bool false)]))
 refine Ai (fun hb12=>?_) fun hb12=>?_
 rintro ⟨⟩
 exact BS Hd.Ac [fq (Ay.DH l11)] [none,bp (Ay.pl n),none] (Ae 300 (o9++[pb hb9,pb hb10,Em (t:=119) (a:=.ptr 2 0) (b:=.sc (.int .i64 e0.kind)) (v:=.ptr 2 7) (by rw [FE hb12];kernel_rfl),pk,Em (t:=119) (a:=.ptr 2 0) (b:=.sc (.int .i64 e0.kind)) (v:=.ptr 2 7) (by rw [FE hb12];kernel_rfl),pi mi0])) (by kernel_rfl) (k (js 61 j0 [(48,.bool true),(49,.bool false),(50,.bool false),(51,.bool false),(52,.bool false)]))
 refine Ai (fun hb13=>?_) fun hb13=>?_
 rintro ⟨⟩
 exact BS Hd.Ac [fq (Ay.DH l11)] [none,bp (Ay.pl n),none] (Ae 300 (o9++[pb hb9,pb hb10,Em (t:=119) (a:=.ptr 2 0) (b:=.sc (.int .i64 e0.kind)) (v:=.ptr 2 8) (by rw [FE hb13];kernel_rfl),pk,Em (t:=119) (a:=.ptr 2 0) (b:=.sc (.int .i64 e0.kind)) (v:=.ptr 2 8) (by rw [FE hb13];kernel_rfl),pi mi0])) (by kernel_rfl) (k (js 61 j0 [(48,.bool true),(49,.bool false),(50,.bool false),(51,.bool false),(52,.bool false)]))
 exact pJ
 rintro ⟨w2_6_12,w2_7_12,w2_8_12⟩ jx_12
 dsimp only
 refine Ai (fun hb14=>?_) fun hb14=>?_
 refine Ai (fun hb15=>?_) fun hb15=>?_
 intro h
 have hE:=Option.some.inj h
 obtain ⟨hE0,hF0⟩:=Prod.mk.inj hE
 subst hE0 hF0
 exact Am Hd.Ac _ _ [] [none] (CX 300 [pk,pn hb14,pk,pb hb15]) (by kernel_rfl) .body
 refine AD fun x13 hx13=>?_
 refine AD ?_
 rintro ⟨y14a,y14b⟩ hy14
 dsimp only
 let o10:List (PC P G):=[pk,pn hb14,pk,pb hb15,Em (DT .lost hx13),pk,AF (IB (Hc hy14) 0)]
 refine Ai (fun hv=>?_) fun hv=>?_
 subst hv
 refine AD ?_
 rintro ⟨y15a,y15b⟩ hy15
 dsimp only
 intro h
 have hE:=Option.some.inj h
 obtain ⟨hE0,hF0⟩:=Prod.mk.inj hE
 subst hE0 hF0
 exact Am Hd.Ac _ _ [] [none] (CX 300 (o10++[R9 (Iu hl11),pk,AF (Gd (Fq hy15) 0)])) (by kernel_rfl) .body
 subst hv
 intro h
 have hE:=Option.some.inj h
 obtain ⟨hE0,hF0⟩:=Prod.mk.inj hE
 subst hE0 hF0
 exact Am Hd.Ac _ _ [] [none] (CX 300 o10) (by kernel_rfl) .body
 intro h
 have hE:=Option.some.inj h
 obtain ⟨hE0,hF0⟩:=Prod.mk.inj hE
 subst hE0 hF0
 exact Am Hd.Ac _ _ [] [none] (CX 300 [pk,pn hb14]) (by kernel_rfl) .body
 subst hv
 intro h
 have hE:=Option.some.inj h
 obtain ⟨hE0,hF0⟩:=Prod.mk.inj hE
 subst hE0 hF0
 exact Am Hd.Ac _ _ [] [none] (Ae 300 o8) (by kernel_rfl) .body
 subst hv
 intro h
 have hE:=Option.some.inj h
 obtain ⟨hE0,hF0⟩:=Prod.mk.inj hE
 subst hE0 hF0
 exact Am Hd.Ac _ _ [] [none] (Ae 300 o7) (by kernel_rfl) .body
 subst hv
 intro h
 have hE:=Option.some.inj h
 obtain ⟨hE0,hF0⟩:=Prod.mk.inj hE
 subst hE0 hF0
 exact Am Hd.Ac _ _ [] [none] (Ae 300 o6) (by kernel_rfl) .body
 intro h
 have hE:=Option.some.inj h
 obtain ⟨hE0,hF0⟩:=Prod.mk.inj hE
 subst hE0 hF0
 exact Am Hd.Ac _ _ [] [none] (Ae 300 (o3++[pb hb3,pb hb7])) (by kernel_rfl) .body
 subst hv
 intro h
 have hE:=Option.some.inj h
 obtain ⟨hE0,hF0⟩:=Prod.mk.inj hE
 subst hE0 hF0
 exact Am Hd.Ac _ _ [] [none] (Ae 300 o1) (by kernel_rfl) .body
end Mo
end Go.Proofs.YtkfplcngmiljaaaGreatDoor
