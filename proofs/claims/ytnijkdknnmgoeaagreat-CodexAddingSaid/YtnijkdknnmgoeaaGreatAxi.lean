/- Part of a proof: see the last text. -/
import Derived.Test.YtnijkdknnmgoeaaGreatAxh
set_option linter.unusedVariables false
set_option linter.unusedSimpArgs false
namespace Go.Proofs.YtnijkdknnmgoeaaGreat
open AI Go
namespace Mo
set_option maxRecDepth 100000
set_option maxHeartbeats 4000000
noncomputable def sJ:Code:=Bo Tryz.f74
theorem zI:Tryz.f74.body=some sJ:=by kernel_rfl
noncomputable def Fy (DV:Nd→Int→Option Int) (limit:Int) (i0:Nat) (e0:Nd) (out5:Int):Option (Lp Int Int Int):=cond (Fu out5 limit) ((DV e0 (SI limit out5)).bind fun y1=>some (.nx (BU out5 y1))) (some (.ex out5))
noncomputable def Gh (DV:Nd→Int→Option Int) (n:Nd) (limit:Int):Option Int:=cond (OB limit 0) (some 0) ((G8 n.kids.length (Bk (fun i y x=>Fy DV limit i y x) (fun x=>x) (n.kids.drop 0) 0 1)).bind (Hv (fun (out5_2:Int)=>some out5_2) (fun v=>some v)))
theorem Lv (DV:Nd→Int→Option Int) (Nm:∀ {n:Nd} {limit:Int} {yR:Int},DV n limit=some yR→Pure P G 74 [.agg (Bq n),.sc (.int .i64 limit)] (.sc (.int .i64 yR))) {n:Nd} {limit:Int} {yR:Int} (h:Gh DV n limit=some yR):Pure P G 74 [.agg (Bq n),.sc (.int .i64 limit)] (.sc (.int .i64 yR)):=by
 unfold Gh at h
 refine DD Hd.mixed Hd.Ab (Ba Tryz.func74 zI ?_) (Bi (Au.D1 n) (Bi rfl rfl)) rfl
 revert h
 refine Ai (fun hb1=>?_) fun hb1=>?_
 rintro ⟨⟩
 exact rS (Ae 300 [pb hb1]) (by kernel_rfl)
 refine EQ (fun Q v=>FF P Tryz.f74 0 Q (.sc (.int .i64 v))) (fun i0 (out5:Int) (j0:List Value)=>fr 33 [(1,.sc (.int .i64 limit)),(2,.ptr 0 0),(5,.sc (.int .i64 out5)),(6,.sc (.int .i64 ((i0:Nat):Int)))] [8,13,14,17,18] j0) (fun (out5:Int)=>⟨[(0,.cells (Bq n))],1,[],0⟩) (fun (out5:Int) (jx:List Value)=>fr 33 [(5,.sc (.int .i64 out5))] [8,13,14,17,18] jx) (fun (out5:Int)=>⟨[(0,.cells (Bq n))],1,[],0⟩) [.bool false] (EH [] 0 (sb sJ 244) [.code (sb sJ 31)] (Ae 300 [pb hb1]) (by kernel_rfl)) ?_ ?_ ?_ (fun v h=>by cases h;exact .outer .body)
 rintro i0 out5 j0 hge hq
 exact C0 (Ae 300 [pb (I3 hge)]) (by kernel_rfl) (hq [(jv j0 0),.bool false,.bool false,undef,.bool false])
 rintro i0 e0 out5 j0 r he0 hi0 mi0 k
 show Fy DV limit i0 e0 out5=some r→_
 unfold Fy
 refine Ai (fun hb2=>?_) fun hb2=>?_
 refine AB fun y1 hy1=>?_
 rintro ⟨⟩
 exact HM (Ae 300 [pb (Gw hi0),pb hb2,Dw (Dp .lost he0),pk,Bu (Nm hy1),pk,pi mi0]) (by kernel_rfl) (k [(jv j0 0),.bool true,.bool true,.bool true,.bool true])
 rintro ⟨⟩
 exact C0 (Ae 300 [pb (Gw hi0),pb hb2]) (by kernel_rfl) (k [(jv j0 0),.bool true,.bool true,.bool false,.bool false])
 rintro out5_2 jx_2
 intro h
 have hE:=Option.some.inj h
 subst hE
 exact Be _ _ (CH 300 []) (by kernel_rfl) .body .sc
noncomputable def Dv:Nat→Nd→Int→Option Int
 | 0,_,_=>none
 | qn+1,n,limit=>Gh (Dv qn) n limit
theorem L8:∀ qn:Nat,∀ {n:Nd} {limit:Int} {yR:Int},Dv qn n limit=some yR→Pure P G 74 [.agg (Bq n),.sc (.int .i64 limit)] (.sc (.int .i64 yR)):=by
 intro qn
 induction qn with
 | zero=>exact (fun h=>by simp only [Dv] at h;cases h)
 | succ qn ih=>exact (fun h=>Lv (Dv qn) ih (by rw [Dv] at h;exact h))
noncomputable def H4 (n:Nd) (limit:Int):Option Int:=UN (fun qn=>Dv qn n limit)
theorem Jf {n:Nd} {limit:Int} {yR:Int} (h:H4 n limit=some yR):Pure P G 74 [.agg (Bq n),.sc (.int .i64 limit)] (.sc (.int .i64 yR)):=by
 obtain ⟨qn,h⟩:=QW h
 exact (L8 qn) h
noncomputable def xM:Code:=Bo Tryz.f42
theorem yY:Tryz.f42.body=some xM:=by kernel_rfl
noncomputable def Gt  (n:Nd) (limit:Int):Option Bool:=(H4 n (BU limit 1)).bind fun y1=>cond (OB y1 limit) (some true) (some false)
theorem I4   {n:Nd} {limit:Int} {yR:Bool} (h:Gt  n limit=some yR):Pure P G 42 [.agg (Bq n),.sc (.int .i64 limit)] (.sc (.bool yR)):=by
 unfold Gt at h
 refine DD Hd.mixed Hd.Ab (Ba Tryz.func42 yY ?_) (Bi (Au.D1 n) (Bi rfl rfl)) rfl
 revert h
 refine AB fun y1 hy1=>?_
 refine Ai (fun hb1=>?_) fun hb1=>?_
 rintro ⟨⟩
 exact rS (Ae 300 [pk,Bu (Jf hy1),pb hb1]) (by kernel_rfl)
 rintro ⟨⟩
 exact rS (Ae 300 [pk,Bu (Jf hy1),pb hb1]) (by kernel_rfl)
noncomputable def sS:Code:=Bo Tryz.f43
theorem xI:Tryz.f43.body=some sS:=by kernel_rfl
noncomputable def Gg (Ef:Nd→Int→Option Bool) (limit:Int) (i0:Nat) (e0:Nd) :Option (Lp Unit Unit Bool):=(Ef e0 (SI limit 1)).bind fun y1=>cond y1 (some (.nx ())) (some (.rt false))
noncomputable def G2 (Ef:Nd→Int→Option Bool) (n:Nd) (limit:Int):Option Bool:=cond (Fu limit 1) (some false) ((G8 n.kids.length (Bk (fun i y x=>Gg Ef limit i y ) (fun x=>()) (n.kids.drop 0) 0 ())).bind (Hv (fun (_:Unit)=>some true) (fun v=>some v)))
theorem L9 (Ef:Nd→Int→Option Bool) (JU:∀ {n:Nd} {limit:Int} {yR:Bool},Ef n limit=some yR→Pure P G 43 [.agg (Bq n),.sc (.int .i64 limit)] (.sc (.bool yR))) {n:Nd} {limit:Int} {yR:Bool} (h:G2 Ef n limit=some yR):Pure P G 43 [.agg (Bq n),.sc (.int .i64 limit)] (.sc (.bool yR)):=by
 unfold G2 at h
 refine DD Hd.mixed Hd.Ab (Ba Tryz.func43 xI ?_) (Bi (Au.D1 n) (Bi rfl rfl)) rfl
 revert h
 refine Ai (fun hb1=>?_) fun hb1=>?_
 rintro ⟨⟩
 exact rS (Ae 300 [pb hb1]) (by kernel_rfl)
 refine EQ (fun Q v=>FF P Tryz.f43 0 Q (.sc (.bool v))) (fun i0 (_:Unit) (j0:List Value)=>fr 24 [(1,.sc (.int .i64 limit)),(2,.ptr 0 0),(5,.sc (.int .i64 ((i0:Nat):Int)))] [4,7,12,22,23] j0) (fun (_:Unit)=>⟨[(0,.cells (Bq n))],1,[],0⟩) (fun (_:Unit) (jx:List Value)=>fr 24 [] [4,7,12,22,23] jx) (fun (_:Unit)=>⟨[(0,.cells (Bq n))],1,[],0⟩) [.bool false,.bool false] (EH [] 0 (sb sS 116) [.code (sb sS 15)] (Ae 300 [pb hb1]) (by kernel_rfl)) ?_ ?_ ?_ (fun v h=>by cases h;exact .outer .body)
 rintro i0 ⟨⟩ j0 hge hq
 exact C0 (Ae 300 [pb (I3 hge)]) (by kernel_rfl) (hq (js 5 j0 [(2,.bool false)]))
 rintro i0 e0 ⟨⟩ j0 r he0 hi0 mi0 k
 show Gg Ef limit i0 e0 =some r→_
 unfold Gg
 refine AB fun y1 hy1=>?_
 refine Ai (fun hv=>?_) fun hv=>?_
 subst hv
 rintro ⟨⟩
 exact HM (Ae 300 [pb (Gw hi0),Dw (Dp .lost he0),pk,Bu (JU hy1),pi mi0]) (by kernel_rfl) (k [(jv j0 0),(jv j0 1),.bool true,.bool true,.bool false])
 subst hv
 rintro ⟨⟩
 exact Be _ _ (Ae 300 [pb (Gw hi0),Dw (Dp .lost he0),pk,Bu (JU hy1)]) (by kernel_rfl) (.Ia k) .sc
 rintro ⟨⟩ jx_2
 intro h
 have hE:=Option.some.inj h
 subst hE
 exact Be _ _ (CH 300 []) (by kernel_rfl) .body .sc
noncomputable def DO:Nat→Nd→Int→Option Bool
 | 0,_,_=>none
 | qn+1,n,limit=>G2 (DO qn) n limit
theorem MK:∀ qn:Nat,∀ {n:Nd} {limit:Int} {yR:Bool},DO qn n limit=some yR→Pure P G 43 [.agg (Bq n),.sc (.int .i64 limit)] (.sc (.bool yR)):=by
 intro qn
 induction qn with
 | zero=>exact (fun h=>by simp only [DO] at h;cases h)
 | succ qn ih=>exact (fun h=>L9 (DO qn) ih (by rw [DO] at h;exact h))
noncomputable def IP (n:Nd) (limit:Int):Option Bool:=UN (fun qn=>DO qn n limit)
theorem Og {n:Nd} {limit:Int} {yR:Bool} (h:IP n limit=some yR):Pure P G 43 [.agg (Bq n),.sc (.int .i64 limit)] (.sc (.bool yR)):=by
 obtain ⟨qn,h⟩:=QW h
 exact (MK qn) h
noncomputable def xH:Code:=Bo Tryz.f12
theorem xY:Tryz.f12.body=some xH:=by kernel_rfl
noncomputable def EU  (n:Nd):Option Bool:=(Gt n 2100).bind fun y1=>cond y1 ((IP n 100).bind fun y2=>some y2) (some false)
theorem IU   {n:Nd} {yR:Bool} (h:EU  n=some yR):Pure P G 12 [.agg (Bq n)] (.sc (.bool yR)):=by
 unfold EU at h
 refine DD Hd.mixed Hd.Ab (Ba Tryz.func12 xY ?_) (Bi (Au.D1 n) rfl) rfl
 revert h
 refine AB fun y1 hy1=>?_
 refine Ai (fun hv=>?_) fun hv=>?_
 subst hv
 refine AB fun y2 hy2=>?_
 intro h
 have hE:=Option.some.inj h
 subst hE
 exact rS (Ae 300 [Bu (I4 hy1),Bu (Og hy2)]) (by kernel_rfl)
 subst hv
 rintro ⟨⟩
 exact rS (Ae 300 [Bu (I4 hy1)]) (by kernel_rfl)
noncomputable def xT:Code:=Bo Tryz.f77
theorem xP:Tryz.f77.body=some xT:=by kernel_rfl
noncomputable def BA  (c:Ck) (n:Nd) (depth:Int):Option (Bool×Int):=cond (OB (BU c.nodes 1) 2000) ((some (OB depth 40)).bind fun q1=>some (q1,(BU c.nodes 1))) (some (false,(BU c.nodes 1)))
theorem CV {c:Ck} {n:Nd} {depth:Int} {yR:Bool} {qc_nodesR:Int} (hS:Sound P G (.call 77 [.ptr 0 0,.agg (Bq n),.sc (.int .i64 depth)] ⟨[(0,.cells (EB c))],1,[],0⟩ (.ret (.sc (.bool yR))) ⟨[(0,.cells [.sc (.int .i64 qc_nodesR)])],1,[],0⟩)) (u0:Nat) (hnb:[u0].Nodup:=by decide) (hnt:([]:List Nat).Nodup:=by decide):Cd.ok P G (.callU 77 [.ptr u0 0,.agg (Bq n),.sc (.int .i64 depth)] (.ret (.sc (.bool yR))) [(u0,.cells (EB c))] [] [(u0,.cells [.sc (.int .i64 qc_nodesR)])] []) :=
 Dh (M:=[.cells (EB c)]) (M2:=[.cells [.sc (.int .i64 qc_nodesR)]]) (T:=[]) (T2:=[]) (k:=1) (j:=0) Hd.Ab _ _ _ _ hS rfl rfl rfl rfl rfl hnb hnt rfl rfl (.cons (.cells (.pl (IT.pl c))) .nil) (.cons (.cells (.pl (Bi rfl rfl))) .nil) (.cons (.ptr (by decide)) (.cons (.pl (Au.D1 n)) (.cons (.pl rfl) .nil))) (.pl rfl) (fun e he=>by simp only [List.mem_singleton] at he;subst he;exact (.arg (.here .ptr)))
theorem Cy   {c:Ck} {n:Nd} {depth:Int} {yR:Bool} {qc_nodesR:Int} (h:BA  c n depth=some (yR,qc_nodesR)):Sound P G (.call 77 [.ptr 0 0,.agg (Bq n),.sc (.int .i64 depth)] ⟨[(0,.cells (EB c))],1,[],0⟩ (.ret (.sc (.bool yR))) ⟨[(0,.cells [.sc (.int .i64 qc_nodesR)])],1,[],0⟩):=by
 unfold BA at h
 refine Di Hd.mixed (Ba Tryz.func77 xP ?_)
 revert h
 refine Ai (fun hb1=>?_) fun hb1=>?_
 refine AB fun q1 hq1=>?_
 intro h
 have hE:=Option.some.inj h
 obtain ⟨hE0,hF0⟩:=Prod.mk.inj hE
 subst hE0 hF0
 exact Aq Hd.Ab _ _ [] [none] (Ae 300 [pk,pb hb1,Pw (pB hq1 (.tmp 20) (.const (.int .i64 40)))]) (by kernel_rfl) .body
 intro h
 have hE:=Option.some.inj h
 obtain ⟨hE0,hF0⟩:=Prod.mk.inj hE
 subst hE0 hF0
 exact Aq Hd.Ab _ _ [] [none] (Ae 300 [pk,pb hb1]) (by kernel_rfl) .body
noncomputable def iV:Code:=Bo Tryz.f100
theorem sC:Tryz.f100.body=some iV:=by kernel_rfl
noncomputable def G5  (s2:(List Pc)) (i0:Nat) (e0:Pc) :Option (Lp Unit Unit Bool):=(s2[i0]?).bind fun x1=>cond (II e0 x1) (some (.nx ())) (some (.rt false))
noncomputable def Gj  (s1:(List Pc)) (s2:(List Pc)):Option Bool:=cond (CN ((s1.length:Nat):Int) ((s2.length:Nat):Int)) ((G8 s1.length (Bk (fun i y x=>G5  s2 i y ) (fun x=>()) (s1.drop 0) 0 ())).bind (Hv (fun (_:Unit)=>some true) (fun v=>some v))) (some false)
theorem NO   {s1:(List Pc)} {s2:(List Pc)} {yR:Bool} (h:Gj  s1 s2=some yR):Pure P G 100 [.sl .lost s1.length (rows EC s1),.sl .lost s2.length (rows EC s2)] (.sc (.bool yR)):=by
 unfold Gj at h
 refine DD Hd.mixed Hd.Ab (Ba Tryz.func100 sC ?_) (Bi (EL.CI s1) (Bi (EL.CI s2) rfl)) rfl
 revert h
 refine Ai (fun hb1=>?_) fun hb1=>?_
 refine EQ (fun Q v=>FF P Tryz.f100 0 Q (.sc (.bool v))) (fun i0 (_:Unit) (j0:List Value)=>fr 26 [(0,.sl .lost s1.length (rows EC s1)),(1,.sl .lost s2.length (rows EC s2)),(12,.sc (.int .i64 ((s1.length:Nat):Int))),(13,.sc (.int .i64 ((i0:Nat):Int)))] [4,10,14,24] j0) (fun (_:Unit)=>⟨[],0,[],0⟩) (fun (_:Unit) (jx:List Value)=>fr 26 [] [4,10,14,24] jx) (fun (_:Unit)=>⟨[],0,[],0⟩) [.bool false,.bool false] (EH [] 0 (sb iV 116) [.code (sb iV 15)] (Ae 300 [pn hb1]) (by kernel_rfl)) ?_ ?_ ?_ (fun v h=>by cases h;exact .outer .body)
 rintro i0 ⟨⟩ j0 hge hq
 exact C0 (Ae 300 [pb (I3 hge)]) (by kernel_rfl) (hq (js 4 j0 [(2,.bool false)]))
 rintro i0 e0 ⟨⟩ j0 r he0 hi0 mi0 k
 show G5  s2 i0 e0 =some r→_
 unfold G5
 refine AB fun x1 hx1=>?_
 refine Ai (fun hb2=>?_) fun hb2=>?_
 rintro ⟨⟩
 exact HM (Ae 300 [pb (Gw hi0),Dw (M4 .lost he0),Dw (M4 .lost hx1),Pw (PY hb2 (.tmp 19) (.tmp 23)),pi mi0]) (by kernel_rfl) (k (js 4 j0 [(2,.bool true),(3,.bool false)]))
 rintro ⟨⟩
 exact Be _ _ (Ae 300 [pb (Gw hi0),Dw (M4 .lost he0),Dw (M4 .lost hx1),Pw (PY hb2 (.tmp 19) (.tmp 23))]) (by kernel_rfl) (.Ia k) .sc
 rintro ⟨⟩ jx_2
 intro h
 have hE:=Option.some.inj h
 subst hE
 exact Be _ _ (CH 300 []) (by kernel_rfl) .body .sc
 rintro ⟨⟩
 exact rS (Ae 300 [pn hb1]) (by kernel_rfl)
noncomputable def xF:Code:=Bo Tryz.f78
theorem xL:Tryz.f78.body=some xF:=by kernel_rfl
noncomputable def Bl  (n:Nd) (fields:Nd):Option Bool:=cond (Cu n.name.data.toList fields.name.data.toList) (cond (Cu n.unit.data.toList fields.unit.data.toList) (cond (CN n.n fields.n) (cond (CN n.fr fields.fr) (cond (CN n.to fields.to) (cond (CN n.known fields.known) (cond (CN n.tab.den fields.tab.den) ((Gj n.tab.ps fields.tab.ps).bind fun y1=>some y1) (some false)) (some false)) (some false)) (some false)) (some false)) (some false)) (some false)
theorem Bj   {n:Nd} {fields:Nd} {yR:Bool} (h:Bl  n fields=some yR):Pure P G 78 [.agg (Bq n),.agg (Bq fields)] (.sc (.bool yR)):=by
 unfold Bl at h
 refine DD Hd.mixed Hd.Ab (Ba Tryz.func78 xL ?_) (Bi (Au.D1 n) (Bi (Au.D1 fields) rfl)) rfl
 revert h
 refine Ai (fun hb1=>?_) fun hb1=>?_
 refine Ai (fun hb2=>?_) fun hb2=>?_
 let o1:List (PC P G):=[pn hb1,pn hb2]
 refine Ai (fun hb3=>?_) fun hb3=>?_
 refine Ai (fun hb4=>?_) fun hb4=>?_
 refine Ai (fun hb5=>?_) fun hb5=>?_
 refine Ai (fun hb6=>?_) fun hb6=>?_
 refine Ai (fun hb7=>?_) fun hb7=>?_
 refine AB fun y1 hy1=>?_
 intro h
 have hE:=Option.some.inj h
 subst hE
 exact rS (Ae 300 (o1++[pn hb3,pn hb4,pn hb5,pn hb6,pb hb7,Bu (NO hy1)])) (by kernel_rfl)
 rintro ⟨⟩
 exact rS (Ae 300 (o1++[pn hb3,pn hb4,pn hb5,pn hb6,pb hb7])) (by kernel_rfl)
 rintro ⟨⟩
 exact rS (Ae 300 (o1++[pn hb3,pn hb4,pn hb5,pn hb6])) (by kernel_rfl)
 rintro ⟨⟩
 exact rS (Ae 300 (o1++[pn hb3,pn hb4,pn hb5])) (by kernel_rfl)
 rintro ⟨⟩
 exact rS (Ae 300 (o1++[pn hb3,pn hb4])) (by kernel_rfl)
 rintro ⟨⟩
 exact rS (Ae 300 (o1++[pn hb3])) (by kernel_rfl)
 rintro ⟨⟩
 exact rS (Ae 300 [pn hb1,pn hb2]) (by kernel_rfl)
 rintro ⟨⟩
 exact rS (Ae 300 [pn hb1]) (by kernel_rfl)
noncomputable def dS:Code:=Bo Tryz.f161
theorem tL:Tryz.f161.body=some dS:=by kernel_rfl
noncomputable def Ew   (i0:Nat) (e0:UInt8) :Option (Lp Unit Unit Bool):=cond (Fu ((e0.toNat:Nat):Int) 65) (some (.rt false)) (cond (Fu 90 ((e0.toNat:Nat):Int)) (some (.rt false)) (some (.nx ())))
noncomputable def D6  (text:ByteArray):Option Bool:=cond (CN ((text.data.toList.length:Nat):Int) 3) ((G8 text.data.toList.length (Bk (fun i y x=>Ew   i y ) (fun x=>()) (text.data.toList.drop 0) 0 ())).bind (Hv (fun (_:Unit)=>some true) (fun v=>some v))) (some false)
theorem JL   {text:ByteArray} {yR:Bool} (h:D6  text=some yR):Pure P G 161 [.sc (.string text)] (.sc (.bool yR)):=by
 unfold D6 at h
 refine DD Hd.mixed Hd.Ab (Ba Tryz.func161 tL ?_) (Bi rfl rfl) rfl
 revert h
 refine Ai (fun hb1=>?_) fun hb1=>?_
 refine EQ (fun Q v=>FF P Tryz.f161 0 Q (.sc (.bool v))) (fun i0 (_:Unit) (j0:List Value)=>fr 23 [(0,.sc (.string text)),(8,.sc (.int .i64 ((text.data.toList.length:Nat):Int))),(9,.sc (.int .i64 ((i0:Nat):Int)))] [2,6,10,15,16,20,21] j0) (fun (_:Unit)=>⟨[],0,[],0⟩) (fun (_:Unit) (jx:List Value)=>fr 23 [] [2,6,10,15,16,20,21] jx) (fun (_:Unit)=>⟨[],0,[],0⟩) [.bool false,.bool false] (EH [] 0 (sb dS 116) [.code (sb dS 15)] (Ae 300 [pn hb1]) (by kernel_rfl)) ?_ ?_ ?_ (fun v h=>by cases h;exact .outer .body)
 rintro i0 ⟨⟩ j0 hge hq
 exact C0 (Ae 300 [pb (I3 hge)]) (by kernel_rfl) (hq (js 7 j0 [(2,.bool false)]))
 rintro i0 e0 ⟨⟩ j0 r he0 hi0 mi0 k
 show Ew   i0 e0 =some r→_
 unfold Ew
 refine Ai (fun hb2=>?_) fun hb2=>?_
 rintro ⟨⟩
 exact Be _ _ (Ae 300 [pb (Gw hi0),XA (Oi he0),pb hb2]) (by kernel_rfl) (.Ia k) .sc
 refine Ai (fun hb3=>?_) fun hb3=>?_
 rintro ⟨⟩
 exact Be _ _ (Ae 300 [pb (Gw hi0),XA (Oi he0),pb hb2,XA (Oi he0),pb hb3]) (by kernel_rfl) (.Ia k) .sc
 rintro ⟨⟩
 exact HM (Ae 300 [pb (Gw hi0),XA (Oi he0),pb hb2,XA (Oi he0),pb hb3,pi mi0]) (by kernel_rfl) (k [(jv j0 0),(jv j0 1),.bool true,.bool false,.bool false,.bool false,.bool false])
 rintro ⟨⟩ jx_1
 intro h
 have hE:=Option.some.inj h
 subst hE
 exact Be _ _ (CH 300 []) (by kernel_rfl) .body .sc
 rintro ⟨⟩
 exact rS (Ae 300 [pn hb1]) (by kernel_rfl)
noncomputable def rN:Code:=Bo Tryz.f119
theorem tQ:Tryz.f119.body=some rN:=by kernel_rfl
noncomputable def CK  (text:ByteArray):Option Bool:=cond (Cu text.data.toList AO.data.toList) (some true) (cond (Cu text.data.toList Bm.data.toList) (some true) (cond (Cu text.data.toList Gi.data.toList) (some true) ((D6 text).bind fun y1=>some y1)))
theorem C6   {text:ByteArray} {yR:Bool} (h:CK  text=some yR):Pure P G 119 [.sc (.string text)] (.sc (.bool yR)):=by
 unfold CK at h
 refine DD Hd.mixed Hd.Ab (Ba Tryz.func119 tQ ?_) (Bi rfl rfl) rfl
 revert h
 refine Ai (fun hb1=>?_) fun hb1=>?_
 rintro ⟨⟩
 exact rS (Ae 300 [pb hb1]) (by kernel_rfl)
 refine Ai (fun hb2=>?_) fun hb2=>?_
 rintro ⟨⟩
 exact rS (Ae 300 [pb hb1,pb hb2]) (by kernel_rfl)
 refine Ai (fun hb3=>?_) fun hb3=>?_
 rintro ⟨⟩
 exact rS (Ae 300 [pb hb1,pb hb2,pb hb3]) (by kernel_rfl)
 refine AB fun y1 hy1=>?_
 intro h
 have hE:=Option.some.inj h
 subst hE
 exact rS (Ae 300 [pb hb1,pb hb2,pb hb3,Bu (JL hy1)]) (by kernel_rfl)
noncomputable def rH:Code:=Bo Tryz.f162
theorem qM:Tryz.f162.body=some rH:=by kernel_rfl
noncomputable def EJ  (word:ByteArray):Option Bool:=cond (Cu word.data.toList bI.data.toList) (some true) (cond (Cu word.data.toList aH.data.toList) (some true) (cond (Cu word.data.toList QN.data.toList) (some true) (cond (Cu word.data.toList oX.data.toList) (some true) (cond (Cu word.data.toList bU.data.toList) (some true) (cond (Cu word.data.toList cE.data.toList) (some true) (cond (Cu word.data.toList vL.data.toList) (some true) (cond (Cu word.data.toList Vc.data.toList) (some true) (cond (Cu word.data.toList cC.data.toList) (some true) (cond (Cu word.data.toList Ta.data.toList) (some true) (cond (Cu word.data.toList TM.data.toList) (some true) (cond (Cu word.data.toList AO.data.toList) (some true) (cond (Cu word.data.toList Bm.data.toList) (some true) (cond (Cu word.data.toList Gi.data.toList) (some true) (cond (Cu word.data.toList nP.data.toList) (some true) (cond (Cu word.data.toList aK.data.toList) (some true) (cond (Cu word.data.toList Te.data.toList) (some true) (cond (Cu word.data.toList VT.data.toList) (some true) (cond (Cu word.data.toList Z7.data.toList) (some true) (cond (Cu word.data.toList b7.data.toList) (some true) (cond (Cu word.data.toList Lm.data.toList) (some true) (cond (Cu word.data.toList nB.data.toList) (some true) (cond (Cu word.data.toList bT.data.toList) (some true) (cond (Cu word.data.toList aA.data.toList) (some true) (cond (Cu word.data.toList VL.data.toList) (some true) (cond (Cu word.data.toList lO.data.toList) (some true) (cond (Cu word.data.toList Hr.data.toList) (some true) (cond (Cu word.data.toList SL.data.toList) (some true) (cond (Cu word.data.toList Kk.data.toList) (some true) (cond (Cu word.data.toList MB.data.toList) (some true) (cond (Cu word.data.toList J6.data.toList) (some true) (cond (Cu word.data.toList Fp.data.toList) (some true) (cond (Cu word.data.toList VA.data.toList) (some true) (some false)))))))))))))))))))))))))))))))))
theorem HJ   {word:ByteArray} {yR:Bool} (h:EJ  word=some yR):Pure P G 162 [.sc (.string word)] (.sc (.bool yR)):=by
 unfold EJ at h
 refine DD Hd.mixed Hd.Ab (Ba Tryz.func162 qM ?_) (Bi rfl rfl) rfl
 revert h
 refine Ai (fun hb1=>?_) fun hb1=>?_
 rintro ⟨⟩
 exact rS (Ae 300 [pb hb1]) (by kernel_rfl)
 let o1:List (PC P G):=[pb hb1]
 refine Ai (fun hb2=>?_) fun hb2=>?_
 rintro ⟨⟩
 exact rS (Ae 300 (o1++[pb hb2])) (by kernel_rfl)
 let o2:List (PC P G):=o1++[pb hb2]
 refine Ai (fun hb3=>?_) fun hb3=>?_
 rintro ⟨⟩
 exact rS (Ae 300 (o2++[pb hb3])) (by kernel_rfl)
 let o3:List (PC P G):=o2++[pb hb3]
 refine Ai (fun hb4=>?_) fun hb4=>?_
 rintro ⟨⟩
 exact rS (Ae 300 (o3++[pb hb4])) (by kernel_rfl)
 let o4:List (PC P G):=o3++[pb hb4]
 refine Ai (fun hb5=>?_) fun hb5=>?_
 rintro ⟨⟩
 exact rS (Ae 300 (o4++[pb hb5])) (by kernel_rfl)
 let o5:List (PC P G):=o4++[pb hb5]
 refine Ai (fun hb6=>?_) fun hb6=>?_
 rintro ⟨⟩
 exact rS (Ae 300 (o5++[pb hb6])) (by kernel_rfl)
 let o6:List (PC P G):=o5++[pb hb6]
 refine Ai (fun hb7=>?_) fun hb7=>?_
 rintro ⟨⟩
 exact rS (Ae 300 (o6++[pb hb7])) (by kernel_rfl)
 let o7:List (PC P G):=o6++[pb hb7]
 refine Ai (fun hb8=>?_) fun hb8=>?_
 rintro ⟨⟩
 exact rS (Ae 300 (o7++[pb hb8])) (by kernel_rfl)
 let o8:List (PC P G):=o7++[pb hb8]
 refine Ai (fun hb9=>?_) fun hb9=>?_
 rintro ⟨⟩
 exact rS (Ae 300 (o8++[pb hb9])) (by kernel_rfl)
 let o9:List (PC P G):=o8++[pb hb9]
 refine Ai (fun hb10=>?_) fun hb10=>?_
 rintro ⟨⟩
 exact rS (Ae 300 (o9++[pb hb10])) (by kernel_rfl)
 let o10:List (PC P G):=o9++[pb hb10]
 refine Ai (fun hb11=>?_) fun hb11=>?_
 rintro ⟨⟩
 exact rS (Ae 300 (o10++[pb hb11])) (by kernel_rfl)
 let o11:List (PC P G):=o10++[pb hb11]
 refine Ai (fun hb12=>?_) fun hb12=>?_
 rintro ⟨⟩
 exact rS (Ae 300 (o11++[pb hb12])) (by kernel_rfl)
 let o12:List (PC P G):=o11++[pb hb12]
 refine Ai (fun hb13=>?_) fun hb13=>?_
 rintro ⟨⟩
 exact rS (Ae 300 (o12++[pb hb13])) (by kernel_rfl)
 let o13:List (PC P G):=o12++[pb hb13]
 refine Ai (fun hb14=>?_) fun hb14=>?_
 rintro ⟨⟩
 exact rS (Ae 300 (o13++[pb hb14])) (by kernel_rfl)
 let o14:List (PC P G):=o13++[pb hb14]
 refine Ai (fun hb15=>?_) fun hb15=>?_
 rintro ⟨⟩
 exact rS (Ae 300 (o14++[pb hb15])) (by kernel_rfl)
 let o15:List (PC P G):=o14++[pb hb15]
 refine Ai (fun hb16=>?_) fun hb16=>?_
 rintro ⟨⟩
 exact rS (Ae 300 (o15++[pb hb16])) (by kernel_rfl)
 let o16:List (PC P G):=o15++[pb hb16]
 refine Ai (fun hb17=>?_) fun hb17=>?_
 rintro ⟨⟩
 exact rS (Ae 300 (o16++[pb hb17])) (by kernel_rfl)
 let o17:List (PC P G):=o16++[pb hb17]
 refine Ai (fun hb18=>?_) fun hb18=>?_
 rintro ⟨⟩
 exact rS (Ae 300 (o17++[pb hb18])) (by kernel_rfl)
 let o18:List (PC P G):=o17++[pb hb18]
 refine Ai (fun hb19=>?_) fun hb19=>?_
 rintro ⟨⟩
 exact rS (Ae 300 (o18++[pb hb19])) (by kernel_rfl)
 let o19:List (PC P G):=o18++[pb hb19]
 refine Ai (fun hb20=>?_) fun hb20=>?_
 rintro ⟨⟩
 exact rS (Ae 300 (o19++[pb hb20])) (by kernel_rfl)
 let o20:List (PC P G):=o19++[pb hb20]
 refine Ai (fun hb21=>?_) fun hb21=>?_
 rintro ⟨⟩
 exact rS (Ae 300 (o20++[pb hb21])) (by kernel_rfl)
 let o21:List (PC P G):=o20++[pb hb21]
 refine Ai (fun hb22=>?_) fun hb22=>?_
 rintro ⟨⟩
 exact rS (Ae 300 (o21++[pb hb22])) (by kernel_rfl)
 let o22:List (PC P G):=o21++[pb hb22]
 refine Ai (fun hb23=>?_) fun hb23=>?_
 rintro ⟨⟩
 exact rS (Ae 300 (o22++[pb hb23])) (by kernel_rfl)
 let o23:List (PC P G):=o22++[pb hb23]
 refine Ai (fun hb24=>?_) fun hb24=>?_
 rintro ⟨⟩
 exact rS (Ae 300 (o23++[pb hb24])) (by kernel_rfl)
 let n9:List (PC P G):=o23++[pb hb24]
 refine Ai (fun hb25=>?_) fun hb25=>?_
 rintro ⟨⟩
 exact rS (Ae 300 (n9++[pb hb25])) (by kernel_rfl)
 refine Ai (fun hb26=>?_) fun hb26=>?_
 rintro ⟨⟩
 exact rS (Ae 300 (n9++[pb hb25,pb hb26])) (by kernel_rfl)
 let o25:List (PC P G):=n9++[pb hb25,pb hb26]
 refine Ai (fun hb27=>?_) fun hb27=>?_
 rintro ⟨⟩
 exact rS (Ae 300 (o25++[pb hb27])) (by kernel_rfl)
 refine Ai (fun hb28=>?_) fun hb28=>?_
 rintro ⟨⟩
 exact rS (Ae 300 (o25++[pb hb27,pb hb28])) (by kernel_rfl)
 let o26:List (PC P G):=o25++[pb hb27,pb hb28]
 refine Ai (fun hb29=>?_) fun hb29=>?_
 rintro ⟨⟩
 exact rS (Ae 300 (o26++[pb hb29])) (by kernel_rfl)
 refine Ai (fun hb30=>?_) fun hb30=>?_
 rintro ⟨⟩
 exact rS (Ae 300 (o26++[pb hb29,pb hb30])) (by kernel_rfl)
 refine Ai (fun hb31=>?_) fun hb31=>?_
 rintro ⟨⟩
 exact rS (Ae 300 (o26++[pb hb29,pb hb30,pb hb31])) (by kernel_rfl)
 refine Ai (fun hb32=>?_) fun hb32=>?_
 rintro ⟨⟩
 exact rS (Ae 300 (o26++[pb hb29,pb hb30,pb hb31,pb hb32])) (by kernel_rfl)
 refine Ai (fun hb33=>?_) fun hb33=>?_
 rintro ⟨⟩
 exact rS (Ae 300 (o26++[pb hb29,pb hb30,pb hb31,pb hb32,pb hb33])) (by kernel_rfl)
 rintro ⟨⟩
 exact rS (Ae 300 (o26++[pb hb29,pb hb30,pb hb31,pb hb32,pb hb33])) (by kernel_rfl)
noncomputable def dU:Code:=Bo Tryz.f120
theorem sO:Tryz.f120.body=some dU:=by kernel_rfl
noncomputable def Ed   (i0:Nat) (e0:UInt8) :Option (Lp Unit Unit Bool):=cond (Fu ((e0.toNat:Nat):Int) 97) (cond (Fu ((e0.toNat:Nat):Int) 48) (some (.rt false)) (cond (Fu 57 ((e0.toNat:Nat):Int)) (cond (CN ((e0.toNat:Nat):Int) 95) (some (.nx ())) (some (.rt false))) (some (.nx ())))) (cond (Fu 122 ((e0.toNat:Nat):Int)) (some (.rt false)) (some (.nx ())))
noncomputable def Ct  (text:ByteArray):Option Bool:=cond (Cu text.data.toList ByteArray.empty.data.toList) (some false) (cond (Fu 16 ((text.data.toList.length:Nat):Int)) (some false) ((text.data.toList[0]?).bind fun c1=>cond (Fu ((c1.toNat:Nat):Int) 97) (some false) (cond (Fu 122 ((c1.toNat:Nat):Int)) (some false) ((EJ text).bind fun y2=>cond y2 (some false) ((G8 text.data.toList.length (Bk (fun i y x=>Ed   i y ) (fun x=>()) (text.data.toList.drop 0) 0 ())).bind (Hv (fun (_:Unit)=>some true) (fun v=>some v)))))))
theorem DS   {text:ByteArray} {yR:Bool} (h:Ct  text=some yR):Pure P G 120 [.sc (.string text)] (.sc (.bool yR)):=by
 unfold Ct at h
 refine DD Hd.mixed Hd.Ab (Ba Tryz.func120 sO ?_) (Bi rfl rfl) rfl
 revert h
 refine Ai (fun hb1=>?_) fun hb1=>?_
 rintro ⟨⟩
 exact rS (Ae 300 [pb hb1]) (by kernel_rfl)
 refine Ai (fun hb2=>?_) fun hb2=>?_
 rintro ⟨⟩
 exact rS (Ae 300 [pb hb1,pb hb2]) (by kernel_rfl)
 refine AB fun c1 hc1=>?_
 let o1:List (PC P G):=[pb hb1,pb hb2,XA (Oi hc1)]
 refine Ai (fun hb3=>?_) fun hb3=>?_
 rintro ⟨⟩
 exact rS (Ae 300 (o1++[pb hb3])) (by kernel_rfl)
 refine Ai (fun hb4=>?_) fun hb4=>?_
 rintro ⟨⟩
 exact rS (Ae 300 (o1++[pb hb3,XA (Oi hc1),pb hb4])) (by kernel_rfl)
 refine AB fun y2 hy2=>?_
 refine Ai (fun hv=>?_) fun hv=>?_
 subst hv
 rintro ⟨⟩
 exact rS (Ae 300 (o1++[pb hb3,XA (Oi hc1),pb hb4,Bu (HJ hy2)])) (by kernel_rfl)
 subst hv
 refine EQ (fun Q v=>FF P Tryz.f120 0 Q (.sc (.bool v))) (fun i0 (_:Unit) (j0:List Value)=>fr 53 [(0,.sc (.string text)),(27,.sc (.int .i64 ((text.data.toList.length:Nat):Int))),(28,.sc (.int .i64 ((i0:Nat):Int)))] [2,6,7,10,11,12,15,16,17,20,21,22,24,25,29,35,36,38,39,40,42,43,45,46,47,48,50,51] j0) (fun (_:Unit)=>⟨[],0,[],0⟩) (fun (_:Unit) (jx:List Value)=>fr 53 [] [2,6,7,10,11,12,15,16,17,20,21,22,24,25,29,35,36,38,39,40,42,43,45,46,47,48,50,51] jx) (fun (_:Unit)=>⟨[],0,[],0⟩) [.bool false,.bool false,.bool false,.bool false,.bool false,.bool false,.bool false,.bool false,.bool false,.bool false,.bool false,.bool false,.bool false,.bool false] (EH [] 0 (sb dU 116) [.code (sb dU 15)] (Ae 300 (o1++[pb hb3,XA (Oi hc1),pb hb4,Bu (HJ hy2)])) (by kernel_rfl)) ?_ ?_ ?_ (fun v h=>by cases h;exact .outer .body)
 rintro i0 ⟨⟩ j0 hge hq
 exact C0 (Ae 300 [pb (I3 hge)]) (by kernel_rfl) (hq (js 28 j0 [(14,.bool false)]))
 rintro i0 e0 ⟨⟩ j0 r he0 hi0 mi0 k
 show Ed   i0 e0 =some r→_
 unfold Ed
 let o2:List (PC P G):=[pb (Gw hi0),XA (Oi he0)]
 refine Ai (fun hb5=>?_) fun hb5=>?_
 refine Ai (fun hb6=>?_) fun hb6=>?_
 rintro ⟨⟩
 exact Be _ _ (Ae 300 (o2++[pb hb5,pb hb6,pn (B:=CN ((e0.toNat:Nat):Int) 95) (b:=false) (bP (by have:=LJ hb5;have:=LJ hb6;omega))])) (by kernel_rfl) (.Ia k) .sc
 refine Ai (fun hb7=>?_) fun hb7=>?_
 refine Ai (fun hb8=>?_) fun hb8=>?_
 rintro ⟨⟩
 exact HM (Ae 300 (o2++[pb hb5,pb hb6,pb hb7,pn hb8,pi mi0])) (by kernel_rfl) (k (js 28 j0 [(14,.bool true),(15,.bool true),(16,.bool true),(17,undef),(18,.bool true),(19,.bool true),(20,.bool false),(21,.bool false),(22,.bool true),(23,.bool true),(24,.bool true),(25,.bool true),(26,.bool false),(27,.bool false)]))
 rintro ⟨⟩
 exact Be _ _ (Ae 300 (o2++[pb hb5,pb hb6,pb hb7,pn hb8])) (by kernel_rfl) (.Ia k) .sc
 rintro ⟨⟩
 exact HM (Ae 300 (o2++[pb hb5,pb hb6,pb hb7,pi mi0])) (by kernel_rfl) (k (js 28 j0 [(14,.bool true),(15,.bool true),(16,.bool true),(17,undef),(18,.bool true),(19,.bool true),(20,.bool false),(21,.bool false),(22,.bool false),(23,.bool false),(24,.bool false),(25,.bool false),(26,undef),(27,.bool false)]))
 refine Ai (fun hb9=>?_) fun hb9=>?_
 rintro ⟨⟩
 exact Be _ _ (Ae 300 (o2++[pb hb5,pb hb9,pb (B:=Fu ((e0.toNat:Nat):Int) 48) (b:=false) (oM (by have:=VE hb5;have:=LJ hb9;omega)),pb (B:=Fu 57 ((e0.toNat:Nat):Int)) (b:=true) (oW (by have:=VE hb5;have:=LJ hb9;omega)),pn (B:=CN ((e0.toNat:Nat):Int) 95) (b:=false) (bP (by have:=VE hb5;have:=LJ hb9;omega))])) (by kernel_rfl) (.Ia k) .sc
 rintro ⟨⟩
 exact HM (Ae 300 (o2++[pb hb5,pb hb9,pi mi0])) (by kernel_rfl) (k (js 28 j0 [(14,.bool true),(15,.bool false),(16,.bool false),(17,.bool false),(18,.bool false),(19,.bool false),(20,undef),(21,undef),(22,undef),(23,undef),(24,.bool false),(25,.bool false),(26,undef),(27,.bool false)]))
 rintro ⟨⟩ jx_3
 intro h
 have hE:=Option.some.inj h
 subst hE
 exact Be _ _ (CH 300 []) (by kernel_rfl) .body .sc
noncomputable def qL:Code:=Bo Tryz.f121
theorem rO:Tryz.f121.body=some qL:=by kernel_rfl
noncomputable def Cc  (n:Int):Option Bool:=cond (OB 1 n) (cond (OB n 1000000) (some true) (some false)) (some false)
theorem DH   {n:Int} {yR:Bool} (h:Cc  n=some yR):Pure P G 121 [.sc (.int .i64 n)] (.sc (.bool yR)):=by
 unfold Cc at h
 refine DD Hd.mixed Hd.Ab (Ba Tryz.func121 rO ?_) (Bi rfl rfl) rfl
 revert h
 refine Ai (fun hb1=>?_) fun hb1=>?_
 refine Ai (fun hb2=>?_) fun hb2=>?_
 rintro ⟨⟩
 exact rS (Ae 300 [pb hb1,pb hb2]) (by kernel_rfl)
 rintro ⟨⟩
 exact rS (Ae 300 [pb hb1,pb hb2]) (by kernel_rfl)
 rintro ⟨⟩
 exact rS (Ae 300 [pb hb1]) (by kernel_rfl)
noncomputable def q8:Code:=Bo Tryz.f122
theorem rU:Tryz.f122.body=some q8:=by kernel_rfl
noncomputable def Dq  (word:ByteArray):Option Bool:=cond (Cu word.data.toList Hr.data.toList) (some true) (cond (Cu word.data.toList SL.data.toList) (some true) (cond (Cu word.data.toList Kk.data.toList) (some true) (cond (Cu word.data.toList MB.data.toList) (some true) (some false))))
theorem IB   {word:ByteArray} {yR:Bool} (h:Dq  word=some yR):Pure P G 122 [.sc (.string word)] (.sc (.bool yR)):=by
 unfold Dq at h
 refine DD Hd.mixed Hd.Ab (Ba Tryz.func122 rU ?_) (Bi rfl rfl) rfl
 revert h
 refine Ai (fun hb1=>?_) fun hb1=>?_
 rintro ⟨⟩
 exact rS (Ae 300 [pb hb1]) (by kernel_rfl)
 refine Ai (fun hb2=>?_) fun hb2=>?_
 rintro ⟨⟩
 exact rS (Ae 300 [pb hb1,pb hb2]) (by kernel_rfl)
 refine Ai (fun hb3=>?_) fun hb3=>?_
 rintro ⟨⟩
 exact rS (Ae 300 [pb hb1,pb hb2,pb hb3]) (by kernel_rfl)
 refine Ai (fun hb4=>?_) fun hb4=>?_
 rintro ⟨⟩
 exact rS (Ae 300 [pb hb1,pb hb2,pb hb3,pb hb4]) (by kernel_rfl)
 rintro ⟨⟩
 exact rS (Ae 300 [pb hb1,pb hb2,pb hb3,pb hb4]) (by kernel_rfl)
noncomputable def fY:Code:=Bo Tryz.f124
theorem sU:Tryz.f124.body=some fY:=by kernel_rfl
noncomputable def DZ  (f:Fn) (i0:Nat) (e0:Pc) :Option (Lp Unit Unit Bool):=cond (Fu 999999999999 e0.fr) (some (.rt false)) (cond (Fu 0 ((i0:Nat):Int)) ((Hi f.ps (SI ((i0:Nat):Int) 1)).bind fun x3=>cond (OB e0.fr x3.fr) (some (.rt false)) ((R7 e0.att f.den).bind fun z4=>cond (CN z4 0) (cond (Fu (TW 999999999999 f.den) e0.att) (some (.rt false)) (cond (Fu e0.att (TW (-999999999999) f.den)) (some (.rt false)) (cond (Fu 1000000 e0.slope) (some (.rt false)) (cond (Fu e0.slope (-1000000)) (some (.rt false)) (some (.nx ())))))) (some (.rt false)))) ((R7 e0.att f.den).bind fun z5=>cond (CN z5 0) (cond (Fu (TW 999999999999 f.den) e0.att) (some (.rt false)) (cond (Fu e0.att (TW (-999999999999) f.den)) (some (.rt false)) (cond (Fu 1000000 e0.slope) (some (.rt false)) (cond (Fu e0.slope (-1000000)) (some (.rt false)) (some (.nx ())))))) (some (.rt false))))
noncomputable def DE  (f:Fn):Option Bool:=(Cc f.den).bind fun y1=>cond y1 (cond (Fu ((f.ps.length:Nat):Int) 1) (some false) (cond (Fu 64 ((f.ps.length:Nat):Int)) (some false) ((f.ps[0]?).bind fun x2=>cond (CN x2.fr 0) ((G8 f.ps.length (Bk (fun i y x=>DZ  f i y ) (fun x=>()) (f.ps.drop 0) 0 ())).bind (Hv (fun (_:Unit)=>some true) (fun v=>some v))) (some false)))) (some false)
theorem Ep   {f:Fn} {yR:Bool} (h:DE  f=some yR):Pure P G 124 [.agg (RK f)] (.sc (.bool yR)):=by
 unfold DE at h
 refine DD Hd.mixed Hd.Ab (Ba Tryz.func124 sU ?_) (Bi (QG.D1 f) rfl) rfl
 revert h
 refine AB fun y1 hy1=>?_
 let o1:List (PC P G):=[Bu (DH hy1)]
 refine Ai (fun hv=>?_) fun hv=>?_
 subst hv
 refine Ai (fun hb1=>?_) fun hb1=>?_
 rintro ⟨⟩
 exact rS (Ae 300 (o1++[pb hb1])) (by kernel_rfl)
 refine Ai (fun hb2=>?_) fun hb2=>?_
 rintro ⟨⟩
 exact rS (Ae 300 (o1++[pb hb1,pb hb2])) (by kernel_rfl)
 refine AB fun x2 hx2=>?_
 refine Ai (fun hb3=>?_) fun hb3=>?_
 refine EQ (fun Q v=>FF P Tryz.f124 0 Q (.sc (.bool v))) (fun i0 (_:Unit) (j0:List Value)=>fr 87 [(1,.ptr 0 0),(30,.sl .lost f.ps.length (rows EC f.ps)),(31,.sc (.int .i64 ((f.ps.length:Nat):Int))),(32,.sc (.int .i64 ((i0:Nat):Int)))] [2,7,8,9,13,14,15,19,20,21,27,28,33,39,40,42,43,53,54,55,61,62,68,69,70,76,77,80,81,84,85] j0) (fun (_:Unit)=>⟨[(0,.cells (RK f))],1,[],0⟩) (fun (_:Unit) (jx:List Value)=>fr 87 [] [2,7,8,9,13,14,15,19,20,21,27,28,33,39,40,42,43,53,54,55,61,62,68,69,70,76,77,80,81,84,85] jx) (fun (_:Unit)=>⟨[(0,.cells (RK f))],1,[],0⟩) [.bool false,.bool true,.bool false,.bool false,.bool false,.bool false,.bool false,.bool false,.bool false,.bool false,.bool false,.bool false] (EH [] 0 (sb fY 116) [.code (sb fY 15)] (Ae 300 (o1++[pb hb1,pb hb2,Dw (M4 .lost hx2),pn hb3])) (by kernel_rfl)) ?_ ?_ ?_ (fun v h=>by cases h;exact .outer .body)
 rintro i0 ⟨⟩ j0 hge hq
 exact C0 (Ae 300 [pb (I3 hge)]) (by kernel_rfl) (hq (js 31 j0 [(12,.bool false)]))
 rintro i0 e0 ⟨⟩ j0 r he0 hi0 mi0 k
 show DZ  f i0 e0 =some r→_
 unfold DZ
 let o2:List (PC P G):=[pb (Gw hi0),Dw (M4 .lost he0)]
 refine Ai (fun hb4=>?_) fun hb4=>?_
 rintro ⟨⟩
 exact Be _ _ (Ae 300 (o2++[pb hb4])) (by kernel_rfl) (.Ia k) .sc
 let o3:List (PC P G):=o2++[pb hb4]
 refine Ai (fun hb5=>?_) fun hb5=>?_
 refine AB fun x3 hx3=>?_
 let o4:List (PC P G):=o3++[pb hb5,pk,Dw (mF .lost hx3)]
 refine Ai (fun hb6=>?_) fun hb6=>?_
 rintro ⟨⟩
 exact Be _ _ (Ae 300 (o4++[pb hb6])) (by kernel_rfl) (.Ia k) .sc
 refine AB fun z4 hz4=>?_
 let o5:List (PC P G):=o4++[pb hb6,Pw (S2 hz4 (.tmp 57) (.tmp 59))]
 refine Ai (fun hb7=>?_) fun hb7=>?_
 refine Ai (fun hb8=>?_) fun hb8=>?_
 rintro ⟨⟩
 exact Be _ _ (Ae 300 (o5++[pn hb7,pk,pb hb8])) (by kernel_rfl) (.Ia k) .sc
 refine Ai (fun hb9=>?_) fun hb9=>?_
 rintro ⟨⟩
 exact Be _ _ (Ae 300 (o5++[pn hb7,pk,pb hb8,pk,pb hb9])) (by kernel_rfl) (.Ia k) .sc
 refine Ai (fun hb10=>?_) fun hb10=>?_
 rintro ⟨⟩
 exact Be _ _ (Ae 300 (o5++[pn hb7,pk,pb hb8,pk,pb hb9,pb hb10])) (by kernel_rfl) (.Ia k) .sc
 refine Ai (fun hb11=>?_) fun hb11=>?_
 rintro ⟨⟩
 exact Be _ _ (Ae 300 (o5++[pn hb7,pk,pb hb8,pk,pb hb9,pb hb10,pb hb11])) (by kernel_rfl) (.Ia k) .sc
 rintro ⟨⟩
 exact BD Hd.Ab [fq (EL.CI f.ps)] [bp (QG.pl f)] (Ae 300 (o5++[pn hb7,pk,pb hb8,pk,pb hb9,pb hb10,pb hb11,pi mi0])) (by kernel_rfl) (k (js 31 j0 [(12,.bool true),(13,.bool false),(14,.bool false),(15,.bool true),(16,.bool true),(17,.bool false),(18,.bool false),(19,.bool false),(20,.bool false),(21,.bool false),(22,.bool false),(23,.bool false),(24,.bool false),(25,.bool false),(26,.bool false),(27,.bool false),(28,.bool false),(29,.bool false),(30,.bool false)]))
 rintro ⟨⟩
 exact Be _ _ (Ae 300 (o5++[pn hb7])) (by kernel_rfl) (.Ia k) .sc
 refine AB fun z5 hz5=>?_
 let o6:List (PC P G):=o3++[pb hb5,Pw (S2 hz5 (.tmp 57) (.tmp 59))]
 refine Ai (fun hb12=>?_) fun hb12=>?_
 refine Ai (fun hb13=>?_) fun hb13=>?_
 rintro ⟨⟩
 exact Be _ _ (Ae 300 (o6++[pn hb12,pk,pb hb13])) (by kernel_rfl) (.Ia k) .sc
 refine Ai (fun hb14=>?_) fun hb14=>?_
 rintro ⟨⟩
 exact Be _ _ (Ae 300 (o6++[pn hb12,pk,pb hb13,pk,pb hb14])) (by kernel_rfl) (.Ia k) .sc
 refine Ai (fun hb15=>?_) fun hb15=>?_
 rintro ⟨⟩
 exact Be _ _ (Ae 300 (o6++[pn hb12,pk,pb hb13,pk,pb hb14,pb hb15])) (by kernel_rfl) (.Ia k) .sc
 refine Ai (fun hb16=>?_) fun hb16=>?_
 rintro ⟨⟩
 exact Be _ _ (Ae 300 (o6++[pn hb12,pk,pb hb13,pk,pb hb14,pb hb15,pb hb16])) (by kernel_rfl) (.Ia k) .sc
 rintro ⟨⟩
 exact BD Hd.Ab [fq (EL.CI f.ps)] [bp (QG.pl f)] (Ae 300 (o6++[pn hb12,pk,pb hb13,pk,pb hb14,pb hb15,pb hb16,pi mi0])) (by kernel_rfl) (k (js 31 j0 [(12,.bool true),(13,.bool false),(14,.bool false),(15,.bool false),(16,.bool false),(17,undef),(18,.bool false),(19,.bool false),(20,.bool false),(21,.bool false),(22,.bool false),(23,.bool false),(24,.bool false),(25,.bool false),(26,.bool false),(27,.bool false),(28,.bool false),(29,.bool false),(30,.bool false)]))
 rintro ⟨⟩
 exact Be _ _ (Ae 300 (o6++[pn hb12])) (by kernel_rfl) (.Ia k) .sc
 rintro ⟨⟩ jx_6
 intro h
 have hE:=Option.some.inj h
 subst hE
 exact Be _ _ (CH 300 []) (by kernel_rfl) .body .sc
 rintro ⟨⟩
 exact rS (Ae 300 (o1++[pb hb1,pb hb2,Dw (M4 .lost hx2),pn hb3])) (by kernel_rfl)
 subst hv
 rintro ⟨⟩
 exact rS (Ae 300 o1) (by kernel_rfl)
theorem AZ {c:Ck} {n:Nd} {depth:Int} {yR:Bool} {qc_nodesR:Int} (hS:Sound P G (.call 76 [.ptr 0 0,.agg (Bq n),.sc (.int .i64 depth)] ⟨[(0,.cells (EB c))],1,[],0⟩ (.ret (.sc (.bool yR))) ⟨[(0,.cells [.sc (.int .i64 qc_nodesR)])],1,[],0⟩)) (u0:Nat) (hnb:[u0].Nodup:=by decide) (hnt:([]:List Nat).Nodup:=by decide):Cd.ok P G (.callU 76 [.ptr u0 0,.agg (Bq n),.sc (.int .i64 depth)] (.ret (.sc (.bool yR))) [(u0,.cells (EB c))] [] [(u0,.cells [.sc (.int .i64 qc_nodesR)])] []) :=
 Dh (M:=[.cells (EB c)]) (M2:=[.cells [.sc (.int .i64 qc_nodesR)]]) (T:=[]) (T2:=[]) (k:=1) (j:=0) Hd.Ab _ _ _ _ hS rfl rfl rfl rfl rfl hnb hnt rfl rfl (.cons (.cells (.pl (IT.pl c))) .nil) (.cons (.cells (.pl (Bi rfl rfl))) .nil) (.cons (.ptr (by decide)) (.cons (.pl (Au.D1 n)) (.cons (.pl rfl) .nil))) (.pl rfl) (fun e he=>by simp only [List.mem_singleton] at he;subst he;exact (.arg (.here .ptr)))
theorem Io {c:Ck} {n:Nd} {depth:Int} {yR:Bool} {qc_nodesR:Int} (hS:Sound P G (.call 123 [.ptr 0 0,.agg (Bq n),.sc (.int .i64 depth)] ⟨[(0,.cells (EB c))],1,[],0⟩ (.ret (.sc (.bool yR))) ⟨[(0,.cells [.sc (.int .i64 qc_nodesR)])],1,[],0⟩)) (u0:Nat) (hnb:[u0].Nodup:=by decide) (hnt:([]:List Nat).Nodup:=by decide):Cd.ok P G (.callU 123 [.ptr u0 0,.agg (Bq n),.sc (.int .i64 depth)] (.ret (.sc (.bool yR))) [(u0,.cells (EB c))] [] [(u0,.cells [.sc (.int .i64 qc_nodesR)])] []) :=
 Dh (M:=[.cells (EB c)]) (M2:=[.cells [.sc (.int .i64 qc_nodesR)]]) (T:=[]) (T2:=[]) (k:=1) (j:=0) Hd.Ab _ _ _ _ hS rfl rfl rfl rfl rfl hnb hnt rfl rfl (.cons (.cells (.pl (IT.pl c))) .nil) (.cons (.cells (.pl (Bi rfl rfl))) .nil) (.cons (.ptr (by decide)) (.cons (.pl (Au.D1 n)) (.cons (.pl rfl) .nil))) (.pl rfl) (fun e he=>by simp only [List.mem_singleton] at he;subst he;exact (.arg (.here .ptr)))
theorem Fo {c:Ck} {n:Nd} {depth:Int} {yR:Bool} {qc_nodesR:Int} (hS:Sound P G (.call 163 [.ptr 0 0,.agg (Bq n),.sc (.int .i64 depth)] ⟨[(0,.cells (EB c))],1,[],0⟩ (.ret (.sc (.bool yR))) ⟨[(0,.cells [.sc (.int .i64 qc_nodesR)])],1,[],0⟩)) (u0:Nat) (hnb:[u0].Nodup:=by decide) (hnt:([]:List Nat).Nodup:=by decide):Cd.ok P G (.callU 163 [.ptr u0 0,.agg (Bq n),.sc (.int .i64 depth)] (.ret (.sc (.bool yR))) [(u0,.cells (EB c))] [] [(u0,.cells [.sc (.int .i64 qc_nodesR)])] []) :=
 Dh (M:=[.cells (EB c)]) (M2:=[.cells [.sc (.int .i64 qc_nodesR)]]) (T:=[]) (T2:=[]) (k:=1) (j:=0) Hd.Ab _ _ _ _ hS rfl rfl rfl rfl rfl hnb hnt rfl rfl (.cons (.cells (.pl (IT.pl c))) .nil) (.cons (.cells (.pl (Bi rfl rfl))) .nil) (.cons (.ptr (by decide)) (.cons (.pl (Au.D1 n)) (.cons (.pl rfl) .nil))) (.pl rfl) (fun e he=>by simp only [List.mem_singleton] at he;subst he;exact (.arg (.here .ptr)))
theorem EX {c:Ck} {list:(List Nd)} {depth:Int} {yR:Bool} {qc_nodesR:Int} (hS:Sound P G (.call 79 [.ptr 0 0,.sl .lost list.length (B5 list),.sc (.int .i64 depth),.fn (.func 76) [.ptr 0 0] []] ⟨[(0,.cells (EB c))],1,[],0⟩ (.ret (.sc (.bool yR))) ⟨[(0,.cells [.sc (.int .i64 qc_nodesR)])],1,[],0⟩)) (u0:Nat) (hnb:[u0].Nodup:=by decide) (hnt:([]:List Nat).Nodup:=by decide):Cd.ok P G (.callU 79 [.ptr u0 0,.sl .lost list.length (B5 list),.sc (.int .i64 depth),.fn (.func 76) [.ptr u0 0] []] (.ret (.sc (.bool yR))) [(u0,.cells (EB c))] [] [(u0,.cells [.sc (.int .i64 qc_nodesR)])] []) :=
 Dh (M:=[.cells (EB c)]) (M2:=[.cells [.sc (.int .i64 qc_nodesR)]]) (T:=[]) (T2:=[]) (k:=1) (j:=0) Hd.Ab _ _ _ _ hS rfl rfl rfl rfl rfl hnb hnt rfl rfl (.cons (.cells (.pl (IT.pl c))) .nil) (.cons (.cells (.pl (Bi rfl rfl))) .nil) (.cons (.ptr (by decide)) (.cons (.pl (Au.CI list)) (.cons (.pl rfl) (.cons (.fn (.cons (.ptr (by decide)) .nil) (.pl rfl)) .nil)))) (.pl rfl) (fun e he=>by simp only [List.mem_singleton] at he;subst he;exact (.arg (.here .ptr)))
noncomputable def yA:Code:=Bo Tryz.f76
theorem yD:Tryz.f76.body=some yA:=by kernel_rfl
noncomputable def Cv (Al:Ck→Nd→Int→Option (Bool×Int)) (AE:Ck→Nd→Int→Option (Bool×Int)) (AF:Ck→Nd→Int→Option (Bool×Int)) (Ax:Ck→(List Nd)→Int→Option (Bool×Int)) (c:Ck) (n:Nd) (depth:Int):Option (Bool×Int):=(BA c n depth).bind fun (y1a,y1b)=>cond y1a (cond (CN n.kind 11) ((CK n.unit).bind fun y2=>cond y2 (cond (Fu n.n 0) (some (false,y1b)) (cond (Fu 999999999999 n.n) (some (false,y1b)) (cond (Cu n.unit.data.toList AO.data.toList) (cond (Fu 1 n.n) (some (false,y1b)) (cond (CN ((n.kids.length:Nat):Int) 0) ((Bl n (⟨0,ByteArray.empty,n.unit,n.n,0,0,0,(⟨0,[]⟩:Fn),[],0⟩:Nd)).bind fun y3=>some (y3,y1b)) (some (false,y1b)))) (cond (CN ((n.kids.length:Nat):Int) 0) ((Bl n (⟨0,ByteArray.empty,n.unit,n.n,0,0,0,(⟨0,[]⟩:Fn),[],0⟩:Nd)).bind fun y4=>some (y4,y1b)) (some (false,y1b)))))) (some (false,y1b))) (cond (CN n.kind 12) ((Ct n.name).bind fun y5=>cond y5 (cond (CN ((n.kids.length:Nat):Int) 0) ((Bl n (⟨0,n.name,ByteArray.empty,0,0,0,0,(⟨0,[]⟩:Fn),[],0⟩:Nd)).bind fun y6=>some (y6,y1b)) (some (false,y1b))) (some (false,y1b))) (cond (CN n.kind 13) ((Cc n.n).bind fun y7=>cond y7 (cond (CN ((n.kids.length:Nat):Int) 0) ((Bl n (⟨0,ByteArray.empty,ByteArray.empty,n.n,0,0,0,(⟨0,[]⟩:Fn),[],0⟩:Nd)).bind fun y8=>some (y8,y1b)) (some (false,y1b))) (some (false,y1b))) (cond (CN n.kind 14) ((Dq n.name).bind fun y9=>cond y9 (cond (CN ((n.kids.length:Nat):Int) 0) ((Bl n (⟨0,n.name,ByteArray.empty,0,0,0,0,(⟨0,[]⟩:Fn),[],0⟩:Nd)).bind fun y10=>some (y10,y1b)) (some (false,y1b))) (some (false,y1b))) (cond (CN n.kind 15) (cond (CN ((n.kids.length:Nat):Int) 1) ((Bl n (⟨0,ByteArray.empty,ByteArray.empty,0,0,0,0,(⟨0,[]⟩:Fn),[],0⟩:Nd)).bind fun y11=>cond y11 ((n.kids[0]?).bind fun x12=>(Al (⟨y1b⟩:Ck) x12 (BU depth 1)).bind fun (y13a,y13b)=>some (y13a,y13b)) (some (false,y1b))) (some (false,y1b))) (cond (CN n.kind 16) ((Bl n (⟨0,n.name,ByteArray.empty,0,0,0,0,(⟨0,[]⟩:Fn),[],0⟩:Nd)).bind fun y14=>cond y14 ((AE (⟨y1b⟩:Ck) n depth).bind fun (y15a,y15b)=>some (y15a,y15b)) (some (false,y1b))) (cond (CN n.kind 17) (cond (Cu n.name.data.toList J6.data.toList) ((Bl n (⟨0,n.name,ByteArray.empty,0,0,0,0,(⟨0,[]⟩:Fn),[],0⟩:Nd)).bind fun y16=>cond y16 (cond (OB 2 ((n.kids.length:Nat):Int)) ((Ax (⟨y1b⟩:Ck) n.kids (BU depth 1)).bind fun (y17a,y17b)=>some (y17a,y17b)) (some (false,y1b))) (some (false,y1b))) (cond (Cu n.name.data.toList Fp.data.toList) ((Bl n (⟨0,n.name,ByteArray.empty,0,0,0,0,(⟨0,[]⟩:Fn),[],0⟩:Nd)).bind fun y18=>cond y18 (cond (OB 2 ((n.kids.length:Nat):Int)) ((Ax (⟨y1b⟩:Ck) n.kids (BU depth 1)).bind fun (y19a,y19b)=>some (y19a,y19b)) (some (false,y1b))) (some (false,y1b))) (some (false,y1b)))) (cond (CN n.kind 18) ((Bl n (⟨0,ByteArray.empty,ByteArray.empty,0,0,0,0,n.tab,[],0⟩:Nd)).bind fun y20=>cond y20 ((DE n.tab).bind fun y21=>cond y21 (cond (CN ((n.kids.length:Nat):Int) 1) ((n.kids[0]?).bind fun x22=>(Al (⟨y1b⟩:Ck) x22 (BU depth 1)).bind fun (y23a,y23b)=>some (y23a,y23b)) (some (false,y1b))) (some (false,y1b))) (some (false,y1b))) (some (false,y1b)))))))))) (some (false,y1b))
theorem H6 (Al:Ck→Nd→Int→Option (Bool×Int)) (AE:Ck→Nd→Int→Option (Bool×Int)) (AF:Ck→Nd→Int→Option (Bool×Int)) (Ax:Ck→(List Nd)→Int→Option (Bool×Int)) (AN:∀ {c:Ck} {n:Nd} {depth:Int} {yR:Bool} {qc_nodesR:Int},Al c n depth=some (yR,qc_nodesR)→Sound P G (.call 76 [.ptr 0 0,.agg (Bq n),.sc (.int .i64 depth)] ⟨[(0,.cells (EB c))],1,[],0⟩ (.ret (.sc (.bool yR))) ⟨[(0,.cells [.sc (.int .i64 qc_nodesR)])],1,[],0⟩)) (C5:∀ {c:Ck} {n:Nd} {depth:Int} {yR:Bool} {qc_nodesR:Int},AE c n depth=some (yR,qc_nodesR)→Sound P G (.call 123 [.ptr 0 0,.agg (Bq n),.sc (.int .i64 depth)] ⟨[(0,.cells (EB c))],1,[],0⟩ (.ret (.sc (.bool yR))) ⟨[(0,.cells [.sc (.int .i64 qc_nodesR)])],1,[],0⟩)) (C1:∀ {c:Ck} {n:Nd} {depth:Int} {yR:Bool} {qc_nodesR:Int},AF c n depth=some (yR,qc_nodesR)→Sound P G (.call 163 [.ptr 0 0,.agg (Bq n),.sc (.int .i64 depth)] ⟨[(0,.cells (EB c))],1,[],0⟩ (.ret (.sc (.bool yR))) ⟨[(0,.cells [.sc (.int .i64 qc_nodesR)])],1,[],0⟩)) (Ce:∀ {c:Ck} {list:(List Nd)} {depth:Int} {yR:Bool} {qc_nodesR:Int},Ax c list depth=some (yR,qc_nodesR)→Sound P G (.call 79 [.ptr 0 0,.sl .lost list.length (B5 list),.sc (.int .i64 depth),.fn (.func 76) [.ptr 0 0] []] ⟨[(0,.cells (EB c))],1,[],0⟩ (.ret (.sc (.bool yR))) ⟨[(0,.cells [.sc (.int .i64 qc_nodesR)])],1,[],0⟩)) {c:Ck} {n:Nd} {depth:Int} {yR:Bool} {qc_nodesR:Int} (h:Cv Al AE AF Ax c n depth=some (yR,qc_nodesR)):Sound P G (.call 76 [.ptr 0 0,.agg (Bq n),.sc (.int .i64 depth)] ⟨[(0,.cells (EB c))],1,[],0⟩ (.ret (.sc (.bool yR))) ⟨[(0,.cells [.sc (.int .i64 qc_nodesR)])],1,[],0⟩):=by
 unfold Cv at h
 refine Di Hd.mixed (Ba Tryz.func76 yD ?_)
 revert h
 refine AB ?_
 rintro ⟨y1a,y1b⟩ hy1
 dsimp only
 let o1:List (PC P G):=[AM (CV (Cy hy1) 0)]
 refine Ai (fun hv=>?_) fun hv=>?_
 subst hv
 refine Ai (fun hb1=>?_) fun hb1=>?_
 refine AB fun y2 hy2=>?_
 let o2:List (PC P G):=o1++[pb hb1,Bu (C6 hy2)]
 refine Ai (fun hv=>?_) fun hv=>?_
 subst hv
 refine Ai (fun hb2=>?_) fun hb2=>?_
 intro h
 have hE:=Option.some.inj h
 obtain ⟨hE0,hF0⟩:=Prod.mk.inj hE
 subst hE0 hF0
 exact Aq Hd.Ab _ _ [] [none] (Ae 300 (o2++[pb hb2])) (by kernel_rfl) .body
 refine Ai (fun hb3=>?_) fun hb3=>?_
 intro h
 have hE:=Option.some.inj h
 obtain ⟨hE0,hF0⟩:=Prod.mk.inj hE
 subst hE0 hF0
 exact Aq Hd.Ab _ _ [] [none] (Ae 300 (o2++[pb hb2,pb hb3])) (by kernel_rfl) .body
 refine Ai (fun hb4=>?_) fun hb4=>?_
 refine Ai (fun hb5=>?_) fun hb5=>?_
 intro h
 have hE:=Option.some.inj h
 obtain ⟨hE0,hF0⟩:=Prod.mk.inj hE
 subst hE0 hF0
 exact Aq Hd.Ab _ _ [] [none] (Ae 300 (o2++[pb hb2,pb hb3,pb hb4,pb hb5])) (by kernel_rfl) .body
 refine Ai (fun hb6=>?_) fun hb6=>?_
 refine AB fun y3 hy3=>?_
 intro h
 have hE:=Option.some.inj h
 obtain ⟨hE0,hF0⟩:=Prod.mk.inj hE
 subst hE0 hF0
 exact Aq Hd.Ab _ _ [] [none] (Ae 300 (o2++[pb hb2,pb hb3,pb hb4,pb hb5,pb hb6,Et (.r (.g (.r (.r (.r (.r (.r (.r (.r (.r (.z (.z (.r .nil))))))))))) .nil)) (Bj hy3)])) (by kernel_rfl) .body
 intro h
 have hE:=Option.some.inj h
 obtain ⟨hE0,hF0⟩:=Prod.mk.inj hE
 subst hE0 hF0
 exact Aq Hd.Ab _ _ [] [none] (Ae 300 (o2++[pb hb2,pb hb3,pb hb4,pb hb5,pb hb6])) (by kernel_rfl) .body
 refine Ai (fun hb7=>?_) fun hb7=>?_
 refine AB fun y4 hy4=>?_
 intro h
 have hE:=Option.some.inj h
 obtain ⟨hE0,hF0⟩:=Prod.mk.inj hE
 subst hE0 hF0
 exact Aq Hd.Ab _ _ [] [none] (Ae 300 (o2++[pb hb2,pb hb3,pb hb4,pb hb7,Et (.r (.g (.r (.r (.r (.r (.r (.r (.r (.r (.z (.z (.r .nil))))))))))) .nil)) (Bj hy4)])) (by kernel_rfl) .body
 intro h
 have hE:=Option.some.inj h
 obtain ⟨hE0,hF0⟩:=Prod.mk.inj hE
 subst hE0 hF0
 exact Aq Hd.Ab _ _ [] [none] (Ae 300 (o2++[pb hb2,pb hb3,pb hb4,pb hb7])) (by kernel_rfl) .body
 subst hv
 intro h
 have hE:=Option.some.inj h
 obtain ⟨hE0,hF0⟩:=Prod.mk.inj hE
 subst hE0 hF0
 exact Aq Hd.Ab _ _ [] [none] (Ae 300 o2) (by kernel_rfl) .body
 let o3:List (PC P G):=o1++[pb hb1]
 refine Ai (fun hb8=>?_) fun hb8=>?_
 refine AB fun y5 hy5=>?_
 let o4:List (PC P G):=o3++[pb hb8,Bu (DS hy5)]
 refine Ai (fun hv=>?_) fun hv=>?_
 subst hv
 refine Ai (fun hb9=>?_) fun hb9=>?_
 refine AB fun y6 hy6=>?_
 intro h
 have hE:=Option.some.inj h
 obtain ⟨hE0,hF0⟩:=Prod.mk.inj hE
 subst hE0 hF0
 exact Aq Hd.Ab _ _ [] [none] (Ae 300 (o4++[pb hb9,Et (.r (.g (.r (.r (.r (.r (.r (.r (.r (.r (.z (.z (.r .nil))))))))))) .nil)) (Bj hy6)])) (by kernel_rfl) .body
 intro h
 have hE:=Option.some.inj h
 obtain ⟨hE0,hF0⟩:=Prod.mk.inj hE
 subst hE0 hF0
 exact Aq Hd.Ab _ _ [] [none] (Ae 300 (o4++[pb hb9])) (by kernel_rfl) .body
 subst hv
 intro h
 have hE:=Option.some.inj h
 obtain ⟨hE0,hF0⟩:=Prod.mk.inj hE
 subst hE0 hF0
 exact Aq Hd.Ab _ _ [] [none] (Ae 300 o4) (by kernel_rfl) .body
 let o5:List (PC P G):=o3++[pb hb8]
 refine Ai (fun hb10=>?_) fun hb10=>?_
 refine AB fun y7 hy7=>?_
 let o6:List (PC P G):=o5++[pb hb10,Bu (DH hy7)]
 refine Ai (fun hv=>?_) fun hv=>?_
 subst hv
 refine Ai (fun hb11=>?_) fun hb11=>?_
 refine AB fun y8 hy8=>?_
 intro h
 have hE:=Option.some.inj h
 obtain ⟨hE0,hF0⟩:=Prod.mk.inj hE
 subst hE0 hF0
 exact Aq Hd.Ab _ _ [] [none] (Ae 300 (o6++[pb hb11,Et (.r (.g (.r (.r (.r (.r (.r (.r (.r (.r (.z (.z (.r .nil))))))))))) .nil)) (Bj hy8)])) (by kernel_rfl) .body
 intro h
 have hE:=Option.some.inj h
 obtain ⟨hE0,hF0⟩:=Prod.mk.inj hE
 subst hE0 hF0
 exact Aq Hd.Ab _ _ [] [none] (Ae 300 (o6++[pb hb11])) (by kernel_rfl) .body
 subst hv
 intro h
 have hE:=Option.some.inj h
 obtain ⟨hE0,hF0⟩:=Prod.mk.inj hE
 subst hE0 hF0
 exact Aq Hd.Ab _ _ [] [none] (Ae 300 o6) (by kernel_rfl) .body
 let o7:List (PC P G):=o5++[pb hb10]
 refine Ai (fun hb12=>?_) fun hb12=>?_
 refine AB fun y9 hy9=>?_
 let o8:List (PC P G):=o7++[pb hb12,Bu (IB hy9)]
 refine Ai (fun hv=>?_) fun hv=>?_
 subst hv
 refine Ai (fun hb13=>?_) fun hb13=>?_
 refine AB fun y10 hy10=>?_
 intro h
 have hE:=Option.some.inj h
 obtain ⟨hE0,hF0⟩:=Prod.mk.inj hE
 subst hE0 hF0
 exact Aq Hd.Ab _ _ [] [none] (Ae 300 (o8++[pb hb13,Et (.r (.g (.r (.r (.r (.r (.r (.r (.r (.r (.z (.z (.r .nil))))))))))) .nil)) (Bj hy10)])) (by kernel_rfl) .body
 intro h
 have hE:=Option.some.inj h
 obtain ⟨hE0,hF0⟩:=Prod.mk.inj hE
 subst hE0 hF0
 exact Aq Hd.Ab _ _ [] [none] (Ae 300 (o8++[pb hb13])) (by kernel_rfl) .body
 subst hv
 intro h
 have hE:=Option.some.inj h
 obtain ⟨hE0,hF0⟩:=Prod.mk.inj hE
 subst hE0 hF0
 exact Aq Hd.Ab _ _ [] [none] (Ae 300 o8) (by kernel_rfl) .body
 let o9:List (PC P G):=o7++[pb hb12]
 refine Ai (fun hb14=>?_) fun hb14=>?_
 refine Ai (fun hb15=>?_) fun hb15=>?_
 refine AB fun y11 hy11=>?_
 let o10:List (PC P G):=o9++[pb hb14,pb hb15,Et (.r (.g (.r (.r (.r (.r (.r (.r (.r (.r (.z (.z (.r .nil))))))))))) .nil)) (Bj hy11)]
 refine Ai (fun hv=>?_) fun hv=>?_
 subst hv
 refine AB fun x12 hx12=>?_
 refine AB ?_
 rintro ⟨y13a,y13b⟩ hy13
 dsimp only
 intro h
 have hE:=Option.some.inj h
 obtain ⟨hE0,hF0⟩:=Prod.mk.inj hE
 subst hE0 hF0
 exact Aq Hd.Ab _ _ [] [none] (Ae 300 (o10++[Dw (Dp .lost hx12),pk,AM (AZ (AN hy13) 0)])) (by kernel_rfl) .body
 subst hv
 intro h
 have hE:=Option.some.inj h
 obtain ⟨hE0,hF0⟩:=Prod.mk.inj hE
 subst hE0 hF0
 exact Aq Hd.Ab _ _ [] [none] (Ae 300 o10) (by kernel_rfl) .body
 intro h
 have hE:=Option.some.inj h
 obtain ⟨hE0,hF0⟩:=Prod.mk.inj hE
 subst hE0 hF0
 exact Aq Hd.Ab _ _ [] [none] (Ae 300 (o9++[pb hb14,pb hb15])) (by kernel_rfl) .body
 let o11:List (PC P G):=o9++[pb hb14]
 refine Ai (fun hb16=>?_) fun hb16=>?_
 refine AB fun y14 hy14=>?_
 let o12:List (PC P G):=o11++[pb hb16,Et (.r (.g (.r (.r (.r (.r (.r (.r (.r (.r (.z (.z (.r .nil))))))))))) .nil)) (Bj hy14)]
 refine Ai (fun hv=>?_) fun hv=>?_
 subst hv
 refine AB ?_
 rintro ⟨y15a,y15b⟩ hy15
 dsimp only
 intro h
 have hE:=Option.some.inj h
 obtain ⟨hE0,hF0⟩:=Prod.mk.inj hE
 subst hE0 hF0
 exact Aq Hd.Ab _ _ [] [none] (Ae 300 (o12++[AM (Io (C5 hy15) 0)])) (by kernel_rfl) .body
 subst hv
 intro h
 have hE:=Option.some.inj h
 obtain ⟨hE0,hF0⟩:=Prod.mk.inj hE
 subst hE0 hF0
 exact Aq Hd.Ab _ _ [] [none] (Ae 300 o12) (by kernel_rfl) .body
 let o13:List (PC P G):=o11++[pb hb16]
 refine Ai (fun hb17=>?_) fun hb17=>?_
 refine Ai (fun hb18=>?_) fun hb18=>?_
 refine AB fun y16 hy16=>?_
 let o14:List (PC P G):=o13++[pb hb17,pb hb18,Et (.r (.g (.r (.r (.r (.r (.r (.r (.r (.r (.z (.z (.r .nil))))))))))) .nil)) (Bj hy16)]
 refine Ai (fun hv=>?_) fun hv=>?_
 subst hv
 refine Ai (fun hb19=>?_) fun hb19=>?_
 refine AB ?_
 rintro ⟨y17a,y17b⟩ hy17
 dsimp only
 intro h
 have hE:=Option.some.inj h
 obtain ⟨hE0,hF0⟩:=Prod.mk.inj hE
 subst hE0 hF0
 exact Aq Hd.Ab _ _ [] [none] (Ae 300 (o14++[pb hb19,pk,AM (EX (Ce hy17) 0)])) (by kernel_rfl) .body
 intro h
 have hE:=Option.some.inj h
 obtain ⟨hE0,hF0⟩:=Prod.mk.inj hE
 subst hE0 hF0
 exact Aq Hd.Ab _ _ [] [none] (Ae 300 (o14++[pb hb19])) (by kernel_rfl) .body
 subst hv
 intro h
 have hE:=Option.some.inj h
 obtain ⟨hE0,hF0⟩:=Prod.mk.inj hE
 subst hE0 hF0
 exact Aq Hd.Ab _ _ [] [none] (Ae 300 o14) (by kernel_rfl) .body
 refine Ai (fun hb20=>?_) fun hb20=>?_
 refine AB fun y18 hy18=>?_
 let o15:List (PC P G):=o13++[pb hb17,pb hb18,pb hb20,Et (.r (.g (.r (.r (.r (.r (.r (.r (.r (.r (.z (.z (.r .nil))))))))))) .nil)) (Bj hy18)]
 refine Ai (fun hv=>?_) fun hv=>?_
 subst hv
 refine Ai (fun hb21=>?_) fun hb21=>?_
 refine AB ?_
 rintro ⟨y19a,y19b⟩ hy19
 dsimp only
 intro h
 have hE:=Option.some.inj h
 obtain ⟨hE0,hF0⟩:=Prod.mk.inj hE
 subst hE0 hF0
 exact Aq Hd.Ab _ _ [] [none] (Ae 300 (o15++[pb hb21,pk,AM (EX (Ce hy19) 0)])) (by kernel_rfl) .body
 intro h
 have hE:=Option.some.inj h
 obtain ⟨hE0,hF0⟩:=Prod.mk.inj hE
 subst hE0 hF0
 exact Aq Hd.Ab _ _ [] [none] (Ae 300 (o15++[pb hb21])) (by kernel_rfl) .body
 subst hv
 intro h
 have hE:=Option.some.inj h
 obtain ⟨hE0,hF0⟩:=Prod.mk.inj hE
 subst hE0 hF0
 exact Aq Hd.Ab _ _ [] [none] (Ae 300 o15) (by kernel_rfl) .body
 intro h
 have hE:=Option.some.inj h
 obtain ⟨hE0,hF0⟩:=Prod.mk.inj hE
 subst hE0 hF0
 exact Aq Hd.Ab _ _ [] [none] (Ae 300 (o13++[pb hb17,pb hb18,pb hb20])) (by kernel_rfl) .body
 refine Ai (fun hb22=>?_) fun hb22=>?_
 refine AB fun y20 hy20=>?_
 let o16:List (PC P G):=o13++[pb hb17,pb hb22,Et (.r (.g (.r (.r (.r (.r (.r (.r (.r (.r (.r (.z (.r .nil))))))))))) .nil)) (Bj hy20)]
 refine Ai (fun hv=>?_) fun hv=>?_
 subst hv
 refine AB fun y21 hy21=>?_
 refine Ai (fun hv=>?_) fun hv=>?_
 subst hv
 refine Ai (fun hb23=>?_) fun hb23=>?_
 refine AB fun x22 hx22=>?_
 refine AB ?_
 rintro ⟨y23a,y23b⟩ hy23
 dsimp only
 intro h
 have hE:=Option.some.inj h
 obtain ⟨hE0,hF0⟩:=Prod.mk.inj hE
 subst hE0 hF0
 exact Aq Hd.Ab _ _ [] [none] (Ae 300 (o16++[Bu (Ep hy21),pb hb23,Dw (Dp .lost hx22),pk,AM (AZ (AN hy23) 0)])) (by kernel_rfl) .body
 intro h
 have hE:=Option.some.inj h
 obtain ⟨hE0,hF0⟩:=Prod.mk.inj hE
 subst hE0 hF0
 exact Aq Hd.Ab _ _ [] [none] (Ae 300 (o16++[Bu (Ep hy21),pb hb23])) (by kernel_rfl) .body
 subst hv
 intro h
 have hE:=Option.some.inj h
 obtain ⟨hE0,hF0⟩:=Prod.mk.inj hE
 subst hE0 hF0
 exact Aq Hd.Ab _ _ [] [none] (Ae 300 (o16++[Bu (Ep hy21)])) (by kernel_rfl) .body
 subst hv
 intro h
 have hE:=Option.some.inj h
 obtain ⟨hE0,hF0⟩:=Prod.mk.inj hE
 subst hE0 hF0
 exact Aq Hd.Ab _ _ [] [none] (Ae 300 o16) (by kernel_rfl) .body
 intro h
 have hE:=Option.some.inj h
 obtain ⟨hE0,hF0⟩:=Prod.mk.inj hE
 subst hE0 hF0
 exact Aq Hd.Ab _ _ [] [none] (Ae 300 (o13++[pb hb17,pb hb22])) (by kernel_rfl) .body
 subst hv
 intro h
 have hE:=Option.some.inj h
 obtain ⟨hE0,hF0⟩:=Prod.mk.inj hE
 subst hE0 hF0
 exact Aq Hd.Ab _ _ [] [none] (Ae 300 o1) (by kernel_rfl) .body
noncomputable def qO:Code:=Bo Tryz.f123
theorem sZ:Tryz.f123.body=some qO:=by kernel_rfl
noncomputable def BN (Al:Ck→Nd→Int→Option (Bool×Int)) (AE:Ck→Nd→Int→Option (Bool×Int)) (AF:Ck→Nd→Int→Option (Bool×Int)) (Ax:Ck→(List Nd)→Int→Option (Bool×Int)) (c:Ck) (n:Nd) (depth:Int):Option (Bool×Int):=cond (CN ((n.kids.length:Nat):Int) 2) ((n.kids[0]?).bind fun x1=>(Al c x1 (BU depth 1)).bind fun (y2a,y2b)=>cond y2a (cond (Cu n.name.data.toList Lq.data.toList) ((n.kids[1]?).bind fun x3=>(AF (⟨y2b⟩:Ck) x3 (BU depth 1)).bind fun (y4a,y4b)=>some (y4a,y4b)) (cond (Cu n.name.data.toList b7.data.toList) ((n.kids[1]?).bind fun x5=>(Al (⟨y2b⟩:Ck) x5 (BU depth 1)).bind fun (y6a,y6b)=>some (y6a,y6b)) (cond (Cu n.name.data.toList Lm.data.toList) ((n.kids[1]?).bind fun x7=>(Al (⟨y2b⟩:Ck) x7 (BU depth 1)).bind fun (y8a,y8b)=>some (y8a,y8b)) (cond (Cu n.name.data.toList LF.data.toList) ((n.kids[1]?).bind fun x9=>(Al (⟨y2b⟩:Ck) x9 (BU depth 1)).bind fun (y10a,y10b)=>some (y10a,y10b)) (cond (Cu n.name.data.toList Ls.data.toList) ((n.kids[1]?).bind fun x11=>(Al (⟨y2b⟩:Ck) x11 (BU depth 1)).bind fun (y12a,y12b)=>some (y12a,y12b)) (cond (Cu n.name.data.toList UT.data.toList) ((n.kids[1]?).bind fun x13=>(Al (⟨y2b⟩:Ck) x13 (BU depth 1)).bind fun (y14a,y14b)=>some (y14a,y14b)) (cond (Cu n.name.data.toList Ll.data.toList) ((n.kids[1]?).bind fun x15=>(Al (⟨y2b⟩:Ck) x15 (BU depth 1)).bind fun (y16a,y16b)=>some (y16a,y16b)) (cond (Cu n.name.data.toList NY.data.toList) ((n.kids[1]?).bind fun x17=>(Al (⟨y2b⟩:Ck) x17 (BU depth 1)).bind fun (y18a,y18b)=>some (y18a,y18b)) (cond (Cu n.name.data.toList UW.data.toList) ((n.kids[1]?).bind fun x19=>(Al (⟨y2b⟩:Ck) x19 (BU depth 1)).bind fun (y20a,y20b)=>some (y20a,y20b)) (cond (Cu n.name.data.toList Ul.data.toList) ((n.kids[1]?).bind fun x21=>(Al (⟨y2b⟩:Ck) x21 (BU depth 1)).bind fun (y22a,y22b)=>some (y22a,y22b)) (cond (Cu n.name.data.toList bT.data.toList) ((n.kids[1]?).bind fun x23=>(Al (⟨y2b⟩:Ck) x23 (BU depth 1)).bind fun (y24a,y24b)=>some (y24a,y24b)) (some (false,y2b))))))))))))) (some (false,y2b))) (some (false,c.nodes))
theorem Hb (Al:Ck→Nd→Int→Option (Bool×Int)) (AE:Ck→Nd→Int→Option (Bool×Int)) (AF:Ck→Nd→Int→Option (Bool×Int)) (Ax:Ck→(List Nd)→Int→Option (Bool×Int)) (AN:∀ {c:Ck} {n:Nd} {depth:Int} {yR:Bool} {qc_nodesR:Int},Al c n depth=some (yR,qc_nodesR)→Sound P G (.call 76 [.ptr 0 0,.agg (Bq n),.sc (.int .i64 depth)] ⟨[(0,.cells (EB c))],1,[],0⟩ (.ret (.sc (.bool yR))) ⟨[(0,.cells [.sc (.int .i64 qc_nodesR)])],1,[],0⟩)) (C5:∀ {c:Ck} {n:Nd} {depth:Int} {yR:Bool} {qc_nodesR:Int},AE c n depth=some (yR,qc_nodesR)→Sound P G (.call 123 [.ptr 0 0,.agg (Bq n),.sc (.int .i64 depth)] ⟨[(0,.cells (EB c))],1,[],0⟩ (.ret (.sc (.bool yR))) ⟨[(0,.cells [.sc (.int .i64 qc_nodesR)])],1,[],0⟩)) (C1:∀ {c:Ck} {n:Nd} {depth:Int} {yR:Bool} {qc_nodesR:Int},AF c n depth=some (yR,qc_nodesR)→Sound P G (.call 163 [.ptr 0 0,.agg (Bq n),.sc (.int .i64 depth)] ⟨[(0,.cells (EB c))],1,[],0⟩ (.ret (.sc (.bool yR))) ⟨[(0,.cells [.sc (.int .i64 qc_nodesR)])],1,[],0⟩)) (Ce:∀ {c:Ck} {list:(List Nd)} {depth:Int} {yR:Bool} {qc_nodesR:Int},Ax c list depth=some (yR,qc_nodesR)→Sound P G (.call 79 [.ptr 0 0,.sl .lost list.length (B5 list),.sc (.int .i64 depth),.fn (.func 76) [.ptr 0 0] []] ⟨[(0,.cells (EB c))],1,[],0⟩ (.ret (.sc (.bool yR))) ⟨[(0,.cells [.sc (.int .i64 qc_nodesR)])],1,[],0⟩)) {c:Ck} {n:Nd} {depth:Int} {yR:Bool} {qc_nodesR:Int} (h:BN Al AE AF Ax c n depth=some (yR,qc_nodesR)):Sound P G (.call 123 [.ptr 0 0,.agg (Bq n),.sc (.int .i64 depth)] ⟨[(0,.cells (EB c))],1,[],0⟩ (.ret (.sc (.bool yR))) ⟨[(0,.cells [.sc (.int .i64 qc_nodesR)])],1,[],0⟩):=by
 unfold BN at h
 refine Di Hd.mixed (Ba Tryz.func123 sZ ?_)
 revert h
 refine Ai (fun hb1=>?_) fun hb1=>?_
 refine AB fun x1 hx1=>?_
 refine AB ?_
 rintro ⟨y2a,y2b⟩ hy2
 dsimp only
 let o1:List (PC P G):=[pn hb1,Dw (Dp .lost hx1),pk,AM (AZ (AN hy2) 0)]
 refine Ai (fun hv=>?_) fun hv=>?_
 subst hv
 refine Ai (fun hb2=>?_) fun hb2=>?_
 refine AB fun x3 hx3=>?_
 refine AB ?_
 rintro ⟨y4a,y4b⟩ hy4
 dsimp only
 intro h
 have hE:=Option.some.inj h
 obtain ⟨hE0,hF0⟩:=Prod.mk.inj hE
 subst hE0 hF0
 exact Aq Hd.Ab _ _ [] [none] (Ae 300 (o1++[pb hb2,Dw (Dp .lost hx3),pk,AM (Fo (C1 hy4) 0)])) (by kernel_rfl) .body
 let o2:List (PC P G):=o1++[pb hb2]
 refine Ai (fun hb3=>?_) fun hb3=>?_
 refine AB fun x5 hx5=>?_
 refine AB ?_
 rintro ⟨y6a,y6b⟩ hy6
 dsimp only
 intro h
 have hE:=Option.some.inj h
 obtain ⟨hE0,hF0⟩:=Prod.mk.inj hE
 subst hE0 hF0
 exact Aq Hd.Ab _ _ [] [none] (Ae 300 (o2++[pb hb3,Dw (Dp .lost hx5),pk,AM (AZ (AN hy6) 0)])) (by kernel_rfl) .body
 refine Ai (fun hb4=>?_) fun hb4=>?_
 refine AB fun x7 hx7=>?_
 refine AB ?_
 rintro ⟨y8a,y8b⟩ hy8
 dsimp only
 intro h
 have hE:=Option.some.inj h
 obtain ⟨hE0,hF0⟩:=Prod.mk.inj hE
 subst hE0 hF0
 exact Aq Hd.Ab _ _ [] [none] (Ae 300 (o2++[pb hb3,pb hb4,Dw (Dp .lost hx7),pk,AM (AZ (AN hy8) 0)])) (by kernel_rfl) .body
 let o3:List (PC P G):=o2++[pb hb3,pb hb4]
 refine Ai (fun hb5=>?_) fun hb5=>?_
 refine AB fun x9 hx9=>?_
 refine AB ?_
 rintro ⟨y10a,y10b⟩ hy10
 dsimp only
 intro h
 have hE:=Option.some.inj h
 obtain ⟨hE0,hF0⟩:=Prod.mk.inj hE
 subst hE0 hF0
 exact Aq Hd.Ab _ _ [] [none] (Ae 300 (o3++[pb hb5,Dw (Dp .lost hx9),pk,AM (AZ (AN hy10) 0)])) (by kernel_rfl) .body
 refine Ai (fun hb6=>?_) fun hb6=>?_
 refine AB fun x11 hx11=>?_
 refine AB ?_
 rintro ⟨y12a,y12b⟩ hy12
 dsimp only
 intro h
 have hE:=Option.some.inj h
 obtain ⟨hE0,hF0⟩:=Prod.mk.inj hE
 subst hE0 hF0
 exact Aq Hd.Ab _ _ [] [none] (Ae 300 (o3++[pb hb5,pb hb6,Dw (Dp .lost hx11),pk,AM (AZ (AN hy12) 0)])) (by kernel_rfl) .body
 let o4:List (PC P G):=o3++[pb hb5,pb hb6]
 refine Ai (fun hb7=>?_) fun hb7=>?_
 refine AB fun x13 hx13=>?_
 refine AB ?_
 rintro ⟨y14a,y14b⟩ hy14
 dsimp only
 intro h
 have hE:=Option.some.inj h
 obtain ⟨hE0,hF0⟩:=Prod.mk.inj hE
 subst hE0 hF0
 exact Aq Hd.Ab _ _ [] [none] (Ae 300 (o4++[pb hb7,Dw (Dp .lost hx13),pk,AM (AZ (AN hy14) 0)])) (by kernel_rfl) .body
 refine Ai (fun hb8=>?_) fun hb8=>?_
 refine AB fun x15 hx15=>?_
 refine AB ?_
 rintro ⟨y16a,y16b⟩ hy16
 dsimp only
 intro h
 have hE:=Option.some.inj h
 obtain ⟨hE0,hF0⟩:=Prod.mk.inj hE
 subst hE0 hF0
 exact Aq Hd.Ab _ _ [] [none] (Ae 300 (o4++[pb hb7,pb hb8,Dw (Dp .lost hx15),pk,AM (AZ (AN hy16) 0)])) (by kernel_rfl) .body
 refine Ai (fun hb9=>?_) fun hb9=>?_
 refine AB fun x17 hx17=>?_
 refine AB ?_
 rintro ⟨y18a,y18b⟩ hy18
 dsimp only
 intro h
 have hE:=Option.some.inj h
 obtain ⟨hE0,hF0⟩:=Prod.mk.inj hE
 subst hE0 hF0
 exact Aq Hd.Ab _ _ [] [none] (Ae 300 (o4++[pb hb7,pb hb8,pb hb9,Dw (Dp .lost hx17),pk,AM (AZ (AN hy18) 0)])) (by kernel_rfl) .body
 refine Ai (fun hb10=>?_) fun hb10=>?_
 refine AB fun x19 hx19=>?_
 refine AB ?_
 rintro ⟨y20a,y20b⟩ hy20
 dsimp only
 intro h
 have hE:=Option.some.inj h
 obtain ⟨hE0,hF0⟩:=Prod.mk.inj hE
 subst hE0 hF0
 exact Aq Hd.Ab _ _ [] [none] (Ae 300 (o4++[pb hb7,pb hb8,pb hb9,pb hb10,Dw (Dp .lost hx19),pk,AM (AZ (AN hy20) 0)])) (by kernel_rfl) .body
 refine Ai (fun hb11=>?_) fun hb11=>?_
 refine AB fun x21 hx21=>?_
 refine AB ?_
 rintro ⟨y22a,y22b⟩ hy22
 dsimp only
 intro h
 have hE:=Option.some.inj h
 obtain ⟨hE0,hF0⟩:=Prod.mk.inj hE
 subst hE0 hF0
 exact Aq Hd.Ab _ _ [] [none] (Ae 300 (o4++[pb hb7,pb hb8,pb hb9,pb hb10,pb hb11,Dw (Dp .lost hx21),pk,AM (AZ (AN hy22) 0)])) (by kernel_rfl) .body
 refine Ai (fun hb12=>?_) fun hb12=>?_
 refine AB fun x23 hx23=>?_
 refine AB ?_
 rintro ⟨y24a,y24b⟩ hy24
 dsimp only
 intro h
 have hE:=Option.some.inj h
 obtain ⟨hE0,hF0⟩:=Prod.mk.inj hE
 subst hE0 hF0
 exact Aq Hd.Ab _ _ [] [none] (Ae 300 (o4++[pb hb7,pb hb8,pb hb9,pb hb10,pb hb11,pb hb12,Dw (Dp .lost hx23),pk,AM (AZ (AN hy24) 0)])) (by kernel_rfl) .body
 intro h
 have hE:=Option.some.inj h
 obtain ⟨hE0,hF0⟩:=Prod.mk.inj hE
 subst hE0 hF0
 exact Aq Hd.Ab _ _ [] [none] (Ae 300 (o4++[pb hb7,pb hb8,pb hb9,pb hb10,pb hb11,pb hb12])) (by kernel_rfl) .body
 subst hv
 intro h
 have hE:=Option.some.inj h
 obtain ⟨hE0,hF0⟩:=Prod.mk.inj hE
 subst hE0 hF0
 exact Aq Hd.Ab _ _ [] [none] (Ae 300 o1) (by kernel_rfl) .body
 intro h
 have hE:=Option.some.inj h
 obtain ⟨hE0,hF0⟩:=Prod.mk.inj hE
 subst hE0 hF0
 exact Aq Hd.Ab _ _ [] [bp (IT.pl c)] (Ae 300 [pn hb1]) (by kernel_rfl) .body
noncomputable def rL:Code:=Bo Tryz.f163
theorem r6:Tryz.f163.body=some rL:=by kernel_rfl
noncomputable def BP (Al:Ck→Nd→Int→Option (Bool×Int)) (AE:Ck→Nd→Int→Option (Bool×Int)) (AF:Ck→Nd→Int→Option (Bool×Int)) (Ax:Ck→(List Nd)→Int→Option (Bool×Int)) (c:Ck) (n:Nd) (depth:Int):Option (Bool×Int):=(Al c n depth).bind fun (y1a,y1b)=>cond y1a (cond (CN n.kind 11) (cond (Cu n.unit.data.toList Bm.data.toList) ((Cc n.n).bind fun y2=>some (y2,y1b)) (some (false,y1b))) (some (false,y1b))) (some (false,y1b))
theorem Hf (Al:Ck→Nd→Int→Option (Bool×Int)) (AE:Ck→Nd→Int→Option (Bool×Int)) (AF:Ck→Nd→Int→Option (Bool×Int)) (Ax:Ck→(List Nd)→Int→Option (Bool×Int)) (AN:∀ {c:Ck} {n:Nd} {depth:Int} {yR:Bool} {qc_nodesR:Int},Al c n depth=some (yR,qc_nodesR)→Sound P G (.call 76 [.ptr 0 0,.agg (Bq n),.sc (.int .i64 depth)] ⟨[(0,.cells (EB c))],1,[],0⟩ (.ret (.sc (.bool yR))) ⟨[(0,.cells [.sc (.int .i64 qc_nodesR)])],1,[],0⟩)) (C5:∀ {c:Ck} {n:Nd} {depth:Int} {yR:Bool} {qc_nodesR:Int},AE c n depth=some (yR,qc_nodesR)→Sound P G (.call 123 [.ptr 0 0,.agg (Bq n),.sc (.int .i64 depth)] ⟨[(0,.cells (EB c))],1,[],0⟩ (.ret (.sc (.bool yR))) ⟨[(0,.cells [.sc (.int .i64 qc_nodesR)])],1,[],0⟩)) (C1:∀ {c:Ck} {n:Nd} {depth:Int} {yR:Bool} {qc_nodesR:Int},AF c n depth=some (yR,qc_nodesR)→Sound P G (.call 163 [.ptr 0 0,.agg (Bq n),.sc (.int .i64 depth)] ⟨[(0,.cells (EB c))],1,[],0⟩ (.ret (.sc (.bool yR))) ⟨[(0,.cells [.sc (.int .i64 qc_nodesR)])],1,[],0⟩)) (Ce:∀ {c:Ck} {list:(List Nd)} {depth:Int} {yR:Bool} {qc_nodesR:Int},Ax c list depth=some (yR,qc_nodesR)→Sound P G (.call 79 [.ptr 0 0,.sl .lost list.length (B5 list),.sc (.int .i64 depth),.fn (.func 76) [.ptr 0 0] []] ⟨[(0,.cells (EB c))],1,[],0⟩ (.ret (.sc (.bool yR))) ⟨[(0,.cells [.sc (.int .i64 qc_nodesR)])],1,[],0⟩)) {c:Ck} {n:Nd} {depth:Int} {yR:Bool} {qc_nodesR:Int} (h:BP Al AE AF Ax c n depth=some (yR,qc_nodesR)):Sound P G (.call 163 [.ptr 0 0,.agg (Bq n),.sc (.int .i64 depth)] ⟨[(0,.cells (EB c))],1,[],0⟩ (.ret (.sc (.bool yR))) ⟨[(0,.cells [.sc (.int .i64 qc_nodesR)])],1,[],0⟩):=by
 unfold BP at h
 refine Di Hd.mixed (Ba Tryz.func163 r6 ?_)
 revert h
 refine AB ?_
 rintro ⟨y1a,y1b⟩ hy1
 dsimp only
 let o1:List (PC P G):=[AM (AZ (AN hy1) 0)]
 refine Ai (fun hv=>?_) fun hv=>?_
 subst hv
 refine Ai (fun hb1=>?_) fun hb1=>?_
 refine Ai (fun hb2=>?_) fun hb2=>?_
 refine AB fun y2 hy2=>?_
 intro h
 have hE:=Option.some.inj h
 obtain ⟨hE0,hF0⟩:=Prod.mk.inj hE
 subst hE0 hF0
 exact Aq Hd.Ab _ _ [] [none] (Ae 300 (o1++[pb hb1,pb hb2,Bu (DH hy2)])) (by kernel_rfl) .body
 intro h
 have hE:=Option.some.inj h
 obtain ⟨hE0,hF0⟩:=Prod.mk.inj hE
 subst hE0 hF0
 exact Aq Hd.Ab _ _ [] [none] (Ae 300 (o1++[pb hb1,pb hb2])) (by kernel_rfl) .body
 intro h
 have hE:=Option.some.inj h
 obtain ⟨hE0,hF0⟩:=Prod.mk.inj hE
 subst hE0 hF0
 exact Aq Hd.Ab _ _ [] [none] (Ae 300 (o1++[pb hb1])) (by kernel_rfl) .body
 subst hv
 intro h
 have hE:=Option.some.inj h
 obtain ⟨hE0,hF0⟩:=Prod.mk.inj hE
 subst hE0 hF0
 exact Aq Hd.Ab _ _ [] [none] (Ae 300 o1) (by kernel_rfl) .body
noncomputable def XV:Code:=Bo Tryz.f79
theorem pR:Tryz.f79.body=some XV:=by kernel_rfl
noncomputable def Cf (Al:Ck→Nd→Int→Option (Bool×Int)) (AE:Ck→Nd→Int→Option (Bool×Int)) (AF:Ck→Nd→Int→Option (Bool×Int)) (Ax:Ck→(List Nd)→Int→Option (Bool×Int)) (depth:Int) (i0:Nat) (e0:Nd) (w0_0:Int):Option (Lp Int Int (Bool×Int)):=(Al (⟨w0_0⟩:Ck) e0 depth).bind fun (y1a,y1b)=>cond y1a (some (.nx y1b)) (some (.rt (false,y1b)))
noncomputable def BW (Al:Ck→Nd→Int→Option (Bool×Int)) (AE:Ck→Nd→Int→Option (Bool×Int)) (AF:Ck→Nd→Int→Option (Bool×Int)) (Ax:Ck→(List Nd)→Int→Option (Bool×Int)) (c:Ck) (list:(List Nd)) (depth:Int):Option (Bool×Int):=(G8 list.length (Bk (fun i y x=>Cf Al AE AF Ax depth i y x) (fun x=>x) (list.drop 0) 0 c.nodes)).bind (Hv (fun (w0_0_2:Int)=>some (true,w0_0_2)) (fun v=>some v))
theorem GC (Al:Ck→Nd→Int→Option (Bool×Int)) (AE:Ck→Nd→Int→Option (Bool×Int)) (AF:Ck→Nd→Int→Option (Bool×Int)) (Ax:Ck→(List Nd)→Int→Option (Bool×Int)) (AN:∀ {c:Ck} {n:Nd} {depth:Int} {yR:Bool} {qc_nodesR:Int},Al c n depth=some (yR,qc_nodesR)→Sound P G (.call 76 [.ptr 0 0,.agg (Bq n),.sc (.int .i64 depth)] ⟨[(0,.cells (EB c))],1,[],0⟩ (.ret (.sc (.bool yR))) ⟨[(0,.cells [.sc (.int .i64 qc_nodesR)])],1,[],0⟩)) (C5:∀ {c:Ck} {n:Nd} {depth:Int} {yR:Bool} {qc_nodesR:Int},AE c n depth=some (yR,qc_nodesR)→Sound P G (.call 123 [.ptr 0 0,.agg (Bq n),.sc (.int .i64 depth)] ⟨[(0,.cells (EB c))],1,[],0⟩ (.ret (.sc (.bool yR))) ⟨[(0,.cells [.sc (.int .i64 qc_nodesR)])],1,[],0⟩)) (C1:∀ {c:Ck} {n:Nd} {depth:Int} {yR:Bool} {qc_nodesR:Int},AF c n depth=some (yR,qc_nodesR)→Sound P G (.call 163 [.ptr 0 0,.agg (Bq n),.sc (.int .i64 depth)] ⟨[(0,.cells (EB c))],1,[],0⟩ (.ret (.sc (.bool yR))) ⟨[(0,.cells [.sc (.int .i64 qc_nodesR)])],1,[],0⟩)) (Ce:∀ {c:Ck} {list:(List Nd)} {depth:Int} {yR:Bool} {qc_nodesR:Int},Ax c list depth=some (yR,qc_nodesR)→Sound P G (.call 79 [.ptr 0 0,.sl .lost list.length (B5 list),.sc (.int .i64 depth),.fn (.func 76) [.ptr 0 0] []] ⟨[(0,.cells (EB c))],1,[],0⟩ (.ret (.sc (.bool yR))) ⟨[(0,.cells [.sc (.int .i64 qc_nodesR)])],1,[],0⟩)) {c:Ck} {list:(List Nd)} {depth:Int} {yR:Bool} {qc_nodesR:Int} (h:BW Al AE AF Ax c list depth=some (yR,qc_nodesR)):Sound P G (.call 79 [.ptr 0 0,.sl .lost list.length (B5 list),.sc (.int .i64 depth),.fn (.func 76) [.ptr 0 0] []] ⟨[(0,.cells (EB c))],1,[],0⟩ (.ret (.sc (.bool yR))) ⟨[(0,.cells [.sc (.int .i64 qc_nodesR)])],1,[],0⟩):=by
 unfold BW at h
 refine Di Hd.mixed (Ba Tryz.func79 pR ?_)
 revert h
 refine EQ (fun Q v=>GH P G Tryz.f79 1 ⟨[(0,.cells (EB c))],1,[],0⟩ Q (.sc (.bool v.1)) ⟨[(0,.cells [.sc (.int .i64 v.2)])],1,[],0⟩) (fun i0 (w0_0:Int) (j0:List Value)=>fr 23 [(2,.sc (.int .i64 depth)),(3,.fn (.func 76) [.ptr 0 0] []),(11,.sl .lost list.length (B5 list)),(12,.sc (.int .i64 ((list.length:Nat):Int))),(13,.sc (.int .i64 ((i0:Nat):Int)))] [8,14,20,21] j0) (fun (w0_0:Int)=>⟨[(0,.cells [.sc (.int .i64 w0_0)])],1,[],0⟩) (fun (w0_0:Int) (jx:List Value)=>fr 23 [] [8,14,20,21] jx) (fun (w0_0:Int)=>⟨[(0,.cells [.sc (.int .i64 w0_0)])],1,[],0⟩) [.bool false] (EH [] 0 (sb XV 52) [.code (sb XV 7)] (Ae 300 []) (by kernel_rfl)) ?_ ?_ ?_ (fun v h=>by cases h;exact .outer .body)
 rintro i0 w0_0 j0 hge hq
 exact C0 (Ae 300 [pb (I3 hge)]) (by kernel_rfl) (hq (js 4 j0 [(1,.bool false)]))
 rintro i0 e0 w0_0 j0 r he0 hi0 mi0 k
 show Cf Al AE AF Ax depth i0 e0 w0_0=some r→_
 unfold Cf
 refine AB ?_
 rintro ⟨y1a,y1b⟩ hy1
 dsimp only
 let o1:List (PC P G):=[pb (Gw hi0),Dw (Dp .lost he0),AM (AZ (AN hy1) 0)]
 refine Ai (fun hv=>?_) fun hv=>?_
 subst hv
 rintro ⟨⟩
 exact BD Hd.Ab [fq (Au.CI list)] [none] (Ae 300 (o1++[pi mi0])) (by kernel_rfl) (k [(jv j0 0),.bool true,.bool true,.bool false])
 subst hv
 rintro ⟨⟩
 exact Aq Hd.Ab _ _ [] [none] (Ae 300 o1) (by kernel_rfl) (.Ia k)
 rintro w0_0_2 jx_2
 intro h
 have hE:=Option.some.inj h
 obtain ⟨hE0,hF0⟩:=Prod.mk.inj hE
 subst hE0 hF0
 exact Aq Hd.Ab _ _ [] [none] (CH 300 []) (by kernel_rfl) .body
mutual
noncomputable def Az:Nat→Ck→Nd→Int→Option (Bool×Int)
 | 0,_,_,_=>none
 | qn+1,c,n,depth=>Cv (Az qn) (AK qn) (AA qn) (Ay qn) c n depth
noncomputable def AK:Nat→Ck→Nd→Int→Option (Bool×Int)
 | 0,_,_,_=>none
 | qn+1,c,n,depth=>BN (Az qn) (AK qn) (AA qn) (Ay qn) c n depth
noncomputable def AA:Nat→Ck→Nd→Int→Option (Bool×Int)
 | 0,_,_,_=>none
 | qn+1,c,n,depth=>BP (Az qn) (AK qn) (AA qn) (Ay qn) c n depth
noncomputable def Ay:Nat→Ck→(List Nd)→Int→Option (Bool×Int)
 | 0,_,_,_=>none
 | qn+1,c,list,depth=>BW (Az qn) (AK qn) (AA qn) (Ay qn) c list depth
end
theorem Fq:∀ qn:Nat,(∀ {c:Ck} {n:Nd} {depth:Int} {yR:Bool} {qc_nodesR:Int},Az qn c n depth=some (yR,qc_nodesR)→Sound P G (.call 76 [.ptr 0 0,.agg (Bq n),.sc (.int .i64 depth)] ⟨[(0,.cells (EB c))],1,[],0⟩ (.ret (.sc (.bool yR))) ⟨[(0,.cells [.sc (.int .i64 qc_nodesR)])],1,[],0⟩))∧(∀ {c:Ck} {n:Nd} {depth:Int} {yR:Bool} {qc_nodesR:Int},AK qn c n depth=some (yR,qc_nodesR)→Sound P G (.call 123 [.ptr 0 0,.agg (Bq n),.sc (.int .i64 depth)] ⟨[(0,.cells (EB c))],1,[],0⟩ (.ret (.sc (.bool yR))) ⟨[(0,.cells [.sc (.int .i64 qc_nodesR)])],1,[],0⟩))∧(∀ {c:Ck} {n:Nd} {depth:Int} {yR:Bool} {qc_nodesR:Int},AA qn c n depth=some (yR,qc_nodesR)→Sound P G (.call 163 [.ptr 0 0,.agg (Bq n),.sc (.int .i64 depth)] ⟨[(0,.cells (EB c))],1,[],0⟩ (.ret (.sc (.bool yR))) ⟨[(0,.cells [.sc (.int .i64 qc_nodesR)])],1,[],0⟩))∧(∀ {c:Ck} {list:(List Nd)} {depth:Int} {yR:Bool} {qc_nodesR:Int},Ay qn c list depth=some (yR,qc_nodesR)→Sound P G (.call 79 [.ptr 0 0,.sl .lost list.length (B5 list),.sc (.int .i64 depth),.fn (.func 76) [.ptr 0 0] []] ⟨[(0,.cells (EB c))],1,[],0⟩ (.ret (.sc (.bool yR))) ⟨[(0,.cells [.sc (.int .i64 qc_nodesR)])],1,[],0⟩)):=by
 intro qn
 induction qn with
 | zero=>exact ⟨(fun h=>by simp only [Az] at h;cases h),(fun h=>by simp only [AK] at h;cases h),(fun h=>by simp only [AA] at h;cases h),(fun h=>by simp only [Ay] at h;cases h)⟩
 | succ qn ih=>exact ⟨(fun h=>H6 (Az qn) (AK qn) (AA qn) (Ay qn) ih.1 ih.2.1 ih.2.2.1 ih.2.2.2 (by rw [Az] at h;exact h)),(fun h=>Hb (Az qn) (AK qn) (AA qn) (Ay qn) ih.1 ih.2.1 ih.2.2.1 ih.2.2.2 (by rw [AK] at h;exact h)),(fun h=>Hf (Az qn) (AK qn) (AA qn) (Ay qn) ih.1 ih.2.1 ih.2.2.1 ih.2.2.2 (by rw [AA] at h;exact h)),(fun h=>GC (Az qn) (AK qn) (AA qn) (Ay qn) ih.1 ih.2.1 ih.2.2.1 ih.2.2.2 (by rw [Ay] at h;exact h))⟩
noncomputable def DL (c:Ck) (n:Nd) (depth:Int):Option (Bool×Int):=UN (fun qn=>Az qn c n depth)
theorem FE {c:Ck} {n:Nd} {depth:Int} {yR:Bool} {qc_nodesR:Int} (h:DL c n depth=some (yR,qc_nodesR)):Sound P G (.call 76 [.ptr 0 0,.agg (Bq n),.sc (.int .i64 depth)] ⟨[(0,.cells (EB c))],1,[],0⟩ (.ret (.sc (.bool yR))) ⟨[(0,.cells [.sc (.int .i64 qc_nodesR)])],1,[],0⟩):=by
 obtain ⟨qn,h⟩:=QW h
 exact (Fq qn).1 h
noncomputable def De (c:Ck) (n:Nd) (depth:Int):Option (Bool×Int):=UN (fun qn=>AA qn c n depth)
theorem H7 {c:Ck} {n:Nd} {depth:Int} {yR:Bool} {qc_nodesR:Int} (h:De c n depth=some (yR,qc_nodesR)):Sound P G (.call 163 [.ptr 0 0,.agg (Bq n),.sc (.int .i64 depth)] ⟨[(0,.cells (EB c))],1,[],0⟩ (.ret (.sc (.bool yR))) ⟨[(0,.cells [.sc (.int .i64 qc_nodesR)])],1,[],0⟩):=by
 obtain ⟨qn,h⟩:=QW h
 exact (Fq qn).2.2.1 h
noncomputable def qJ:Code:=Bo Tryz.f164
theorem tP:Tryz.f164.body=some qJ:=by kernel_rfl
noncomputable def Dz  (day:Int):Option Bool:=cond (OB 0 day) (cond (OB day 36524) (some true) (some false)) (some false)
theorem EZ   {day:Int} {yR:Bool} (h:Dz  day=some yR):Pure P G 164 [.sc (.int .i64 day)] (.sc (.bool yR)):=by
 unfold Dz at h
 refine DD Hd.mixed Hd.Ab (Ba Tryz.func164 tP ?_) (Bi rfl rfl) rfl
 revert h
 refine Ai (fun hb1=>?_) fun hb1=>?_
 refine Ai (fun hb2=>?_) fun hb2=>?_
 rintro ⟨⟩
 exact rS (Ae 300 [pb hb1,pb hb2]) (by kernel_rfl)
 rintro ⟨⟩
 exact rS (Ae 300 [pb hb1,pb hb2]) (by kernel_rfl)
 rintro ⟨⟩
 exact rS (Ae 300 [pb hb1]) (by kernel_rfl)
noncomputable def rC:Code:=Bo Tryz.f125
theorem tI:Tryz.f125.body=some rC:=by kernel_rfl
noncomputable def CX  (c:Ck) (n:Nd) (depth:Int):Option (Bool×Int):=(BA c n depth).bind fun (y1a,y1b)=>cond y1a (cond (CN n.kind 5) (cond (Fu n.n 0) (some (false,y1b)) (cond (Fu 1000000 n.n) (some (false,y1b)) (cond (Fu 0 ((n.kids.length:Nat):Int)) (some (false,y1b)) ((Dz n.fr).bind fun y2=>cond y2 (cond (OB n.to n.fr) (some (false,y1b)) (cond (Fu 36525 n.to) (some (false,y1b)) ((Dz n.known).bind fun y3=>cond y3 ((Bl n (⟨0,ByteArray.empty,ByteArray.empty,n.n,n.fr,n.to,n.known,(⟨0,[]⟩:Fn),[],0⟩:Nd)).bind fun y4=>some (y4,y1b)) (some (false,y1b))))) (some (false,y1b)))))) (some (false,y1b))) (some (false,y1b))
theorem IV {c:Ck} {n:Nd} {depth:Int} {yR:Bool} {qc_nodesR:Int} (hS:Sound P G (.call 125 [.ptr 0 0,.agg (Bq n),.sc (.int .i64 depth)] ⟨[(0,.cells (EB c))],1,[],0⟩ (.ret (.sc (.bool yR))) ⟨[(0,.cells [.sc (.int .i64 qc_nodesR)])],1,[],0⟩)) (u0:Nat) (hnb:[u0].Nodup:=by decide) (hnt:([]:List Nat).Nodup:=by decide):Cd.ok P G (.callU 125 [.ptr u0 0,.agg (Bq n),.sc (.int .i64 depth)] (.ret (.sc (.bool yR))) [(u0,.cells (EB c))] [] [(u0,.cells [.sc (.int .i64 qc_nodesR)])] []) :=
 Dh (M:=[.cells (EB c)]) (M2:=[.cells [.sc (.int .i64 qc_nodesR)]]) (T:=[]) (T2:=[]) (k:=1) (j:=0) Hd.Ab _ _ _ _ hS rfl rfl rfl rfl rfl hnb hnt rfl rfl (.cons (.cells (.pl (IT.pl c))) .nil) (.cons (.cells (.pl (Bi rfl rfl))) .nil) (.cons (.ptr (by decide)) (.cons (.pl (Au.D1 n)) (.cons (.pl rfl) .nil))) (.pl rfl) (fun e he=>by simp only [List.mem_singleton] at he;subst he;exact (.arg (.here .ptr)))
theorem HU   {c:Ck} {n:Nd} {depth:Int} {yR:Bool} {qc_nodesR:Int} (h:CX  c n depth=some (yR,qc_nodesR)):Sound P G (.call 125 [.ptr 0 0,.agg (Bq n),.sc (.int .i64 depth)] ⟨[(0,.cells (EB c))],1,[],0⟩ (.ret (.sc (.bool yR))) ⟨[(0,.cells [.sc (.int .i64 qc_nodesR)])],1,[],0⟩):=by
 unfold CX at h
 refine Di Hd.mixed (Ba Tryz.func125 tI ?_)
 revert h
 refine AB ?_
 rintro ⟨y1a,y1b⟩ hy1
 dsimp only
 let o1:List (PC P G):=[AM (CV (Cy hy1) 0)]
 refine Ai (fun hv=>?_) fun hv=>?_
 subst hv
 refine Ai (fun hb1=>?_) fun hb1=>?_
 refine Ai (fun hb2=>?_) fun hb2=>?_
 intro h
 have hE:=Option.some.inj h
 obtain ⟨hE0,hF0⟩:=Prod.mk.inj hE
 subst hE0 hF0
 exact Aq Hd.Ab _ _ [] [none] (Ae 300 (o1++[pn hb1,pb hb2])) (by kernel_rfl) .body
 let o2:List (PC P G):=o1++[pn hb1,pb hb2]
 refine Ai (fun hb3=>?_) fun hb3=>?_
 intro h
 have hE:=Option.some.inj h
 obtain ⟨hE0,hF0⟩:=Prod.mk.inj hE
 subst hE0 hF0
 exact Aq Hd.Ab _ _ [] [none] (Ae 300 (o2++[pb hb3])) (by kernel_rfl) .body
 refine Ai (fun hb4=>?_) fun hb4=>?_
 intro h
 have hE:=Option.some.inj h
 obtain ⟨hE0,hF0⟩:=Prod.mk.inj hE
 subst hE0 hF0
 exact Aq Hd.Ab _ _ [] [none] (Ae 300 (o2++[pb hb3,pb hb4])) (by kernel_rfl) .body
 refine AB fun y2 hy2=>?_
 let o3:List (PC P G):=o2++[pb hb3,pb hb4,Bu (EZ hy2)]
 refine Ai (fun hv=>?_) fun hv=>?_
 subst hv
 refine Ai (fun hb5=>?_) fun hb5=>?_
 intro h
 have hE:=Option.some.inj h
 obtain ⟨hE0,hF0⟩:=Prod.mk.inj hE
 subst hE0 hF0
 exact Aq Hd.Ab _ _ [] [none] (Ae 300 (o3++[pb hb5])) (by kernel_rfl) .body
 refine Ai (fun hb6=>?_) fun hb6=>?_
 intro h
 have hE:=Option.some.inj h
 obtain ⟨hE0,hF0⟩:=Prod.mk.inj hE
 subst hE0 hF0
 exact Aq Hd.Ab _ _ [] [none] (Ae 300 (o3++[pb hb5,pb hb6])) (by kernel_rfl) .body
 refine AB fun y3 hy3=>?_
 refine Ai (fun hv=>?_) fun hv=>?_
 subst hv
 refine AB fun y4 hy4=>?_
 intro h
 have hE:=Option.some.inj h
 obtain ⟨hE0,hF0⟩:=Prod.mk.inj hE
 subst hE0 hF0
 exact Aq Hd.Ab _ _ [] [none] (Ae 300 (o3++[pb hb5,pb hb6,Bu (EZ hy3),Et (.r (.g (.r (.r (.r (.r (.r (.r (.r (.r (.z (.z (.r .nil))))))))))) .nil)) (Bj hy4)])) (by kernel_rfl) .body
 subst hv
 intro h
 have hE:=Option.some.inj h
 obtain ⟨hE0,hF0⟩:=Prod.mk.inj hE
 subst hE0 hF0
 exact Aq Hd.Ab _ _ [] [none] (Ae 300 (o3++[pb hb5,pb hb6,Bu (EZ hy3)])) (by kernel_rfl) .body
 subst hv
 intro h
 have hE:=Option.some.inj h
 obtain ⟨hE0,hF0⟩:=Prod.mk.inj hE
 subst hE0 hF0
 exact Aq Hd.Ab _ _ [] [none] (Ae 300 o3) (by kernel_rfl) .body
 intro h
 have hE:=Option.some.inj h
 obtain ⟨hE0,hF0⟩:=Prod.mk.inj hE
 subst hE0 hF0
 exact Aq Hd.Ab _ _ [] [none] (Ae 300 (o1++[pn hb1])) (by kernel_rfl) .body
 subst hv
 intro h
 have hE:=Option.some.inj h
 obtain ⟨hE0,hF0⟩:=Prod.mk.inj hE
 subst hE0 hF0
 exact Aq Hd.Ab _ _ [] [none] (Ae 300 o1) (by kernel_rfl) .body
noncomputable def Dl  (depth:Int) (i0:Nat) (e0:Nd) (w0_0:Int):Option (Lp Int Int (Bool×Int)):=(De (⟨w0_0⟩:Ck) e0 depth).bind fun (y1a,y1b)=>cond y1a (some (.nx y1b)) (some (.rt (false,y1b)))
noncomputable def CG  (c:Ck) (list:(List Nd)) (depth:Int):Option (Bool×Int):=(G8 list.length (Bk (fun i y x=>Dl  depth i y x) (fun x=>x) (list.drop 0) 0 c.nodes)).bind (Hv (fun (w0_0_2:Int)=>some (true,w0_0_2)) (fun v=>some v))
theorem GV {c:Ck} {list:(List Nd)} {depth:Int} {yR:Bool} {qc_nodesR:Int} (hS:Sound P G (.call 79 [.ptr 0 0,.sl .lost list.length (B5 list),.sc (.int .i64 depth),.fn (.func 163) [.ptr 0 0] []] ⟨[(0,.cells (EB c))],1,[],0⟩ (.ret (.sc (.bool yR))) ⟨[(0,.cells [.sc (.int .i64 qc_nodesR)])],1,[],0⟩)) (u0:Nat) (hnb:[u0].Nodup:=by decide) (hnt:([]:List Nat).Nodup:=by decide):Cd.ok P G (.callU 79 [.ptr u0 0,.sl .lost list.length (B5 list),.sc (.int .i64 depth),.fn (.func 163) [.ptr u0 0] []] (.ret (.sc (.bool yR))) [(u0,.cells (EB c))] [] [(u0,.cells [.sc (.int .i64 qc_nodesR)])] []) :=
 Dh (M:=[.cells (EB c)]) (M2:=[.cells [.sc (.int .i64 qc_nodesR)]]) (T:=[]) (T2:=[]) (k:=1) (j:=0) Hd.Ab _ _ _ _ hS rfl rfl rfl rfl rfl hnb hnt rfl rfl (.cons (.cells (.pl (IT.pl c))) .nil) (.cons (.cells (.pl (Bi rfl rfl))) .nil) (.cons (.ptr (by decide)) (.cons (.pl (Au.CI list)) (.cons (.pl rfl) (.cons (.fn (.cons (.ptr (by decide)) .nil) (.pl rfl)) .nil)))) (.pl rfl) (fun e he=>by simp only [List.mem_singleton] at he;subst he;exact (.arg (.here .ptr)))
theorem F0   {c:Ck} {list:(List Nd)} {depth:Int} {yR:Bool} {qc_nodesR:Int} (h:CG  c list depth=some (yR,qc_nodesR)):Sound P G (.call 79 [.ptr 0 0,.sl .lost list.length (B5 list),.sc (.int .i64 depth),.fn (.func 163) [.ptr 0 0] []] ⟨[(0,.cells (EB c))],1,[],0⟩ (.ret (.sc (.bool yR))) ⟨[(0,.cells [.sc (.int .i64 qc_nodesR)])],1,[],0⟩):=by
 unfold CG at h
 refine Di Hd.mixed (Ba Tryz.func79 pR ?_)
 revert h
 refine EQ (fun Q v=>GH P G Tryz.f79 1 ⟨[(0,.cells (EB c))],1,[],0⟩ Q (.sc (.bool v.1)) ⟨[(0,.cells [.sc (.int .i64 v.2)])],1,[],0⟩) (fun i0 (w0_0:Int) (j0:List Value)=>fr 23 [(2,.sc (.int .i64 depth)),(3,.fn (.func 163) [.ptr 0 0] []),(11,.sl .lost list.length (B5 list)),(12,.sc (.int .i64 ((list.length:Nat):Int))),(13,.sc (.int .i64 ((i0:Nat):Int)))] [8,14,20,21] j0) (fun (w0_0:Int)=>⟨[(0,.cells [.sc (.int .i64 w0_0)])],1,[],0⟩) (fun (w0_0:Int) (jx:List Value)=>fr 23 [] [8,14,20,21] jx) (fun (w0_0:Int)=>⟨[(0,.cells [.sc (.int .i64 w0_0)])],1,[],0⟩) [.bool false] (EH [] 0 (sb XV 52) [.code (sb XV 7)] (Ae 300 []) (by kernel_rfl)) ?_ ?_ ?_ (fun v h=>by cases h;exact .outer .body)
 rintro i0 w0_0 j0 hge hq
 exact C0 (Ae 300 [pb (I3 hge)]) (by kernel_rfl) (hq (js 4 j0 [(1,.bool false)]))
 rintro i0 e0 w0_0 j0 r he0 hi0 mi0 k
 show Dl  depth i0 e0 w0_0=some r→_
 unfold Dl
 refine AB ?_
 rintro ⟨y1a,y1b⟩ hy1
 dsimp only
 let o1:List (PC P G):=[pb (Gw hi0),Dw (Dp .lost he0),AM (Fo (H7 hy1) 0)]
 refine Ai (fun hv=>?_) fun hv=>?_
 subst hv
 rintro ⟨⟩
 exact BD Hd.Ab [fq (Au.CI list)] [none] (Ae 300 (o1++[pi mi0])) (by kernel_rfl) (k [(jv j0 0),.bool true,.bool true,.bool false])
 subst hv
 rintro ⟨⟩
 exact Aq Hd.Ab _ _ [] [none] (Ae 300 o1) (by kernel_rfl) (.Ia k)
 rintro w0_0_2 jx_2
 intro h
 have hE:=Option.some.inj h
 obtain ⟨hE0,hF0⟩:=Prod.mk.inj hE
 subst hE0 hF0
 exact Aq Hd.Ab _ _ [] [none] (CH 300 []) (by kernel_rfl) .body
noncomputable def rV:Code:=Bo Tryz.f126
theorem qV:Tryz.f126.body=some rV:=by kernel_rfl
noncomputable def Ca  (c:Ck) (n:Nd) (depth:Int):Option (Bool×Int):=(BA c n depth).bind fun (y1a,y1b)=>cond y1a ((Bl n (⟨0,ByteArray.empty,ByteArray.empty,0,0,0,0,(⟨0,[]⟩:Fn),[],0⟩:Nd)).bind fun y2=>cond y2 (cond (CN n.kind 7) (cond (Fu 0 ((n.kids.length:Nat):Int)) ((CG (⟨y1b⟩:Ck) n.kids (BU depth 1)).bind fun (y3a,y3b)=>some (y3a,y3b)) (some (false,y1b))) (cond (CN ((n.kids.length:Nat):Int) 1) ((n.kids[0]?).bind fun x4=>(DL (⟨y1b⟩:Ck) x4 (BU depth 1)).bind fun (y5a,y5b)=>some (y5a,y5b)) (some (false,y1b)))) (some (false,y1b))) (some (false,y1b))
theorem Iq {c:Ck} {n:Nd} {depth:Int} {yR:Bool} {qc_nodesR:Int} (hS:Sound P G (.call 126 [.ptr 0 0,.agg (Bq n),.sc (.int .i64 depth)] ⟨[(0,.cells (EB c))],1,[],0⟩ (.ret (.sc (.bool yR))) ⟨[(0,.cells [.sc (.int .i64 qc_nodesR)])],1,[],0⟩)) (u0:Nat) (hnb:[u0].Nodup:=by decide) (hnt:([]:List Nat).Nodup:=by decide):Cd.ok P G (.callU 126 [.ptr u0 0,.agg (Bq n),.sc (.int .i64 depth)] (.ret (.sc (.bool yR))) [(u0,.cells (EB c))] [] [(u0,.cells [.sc (.int .i64 qc_nodesR)])] []) :=
 Dh (M:=[.cells (EB c)]) (M2:=[.cells [.sc (.int .i64 qc_nodesR)]]) (T:=[]) (T2:=[]) (k:=1) (j:=0) Hd.Ab _ _ _ _ hS rfl rfl rfl rfl rfl hnb hnt rfl rfl (.cons (.cells (.pl (IT.pl c))) .nil) (.cons (.cells (.pl (Bi rfl rfl))) .nil) (.cons (.ptr (by decide)) (.cons (.pl (Au.D1 n)) (.cons (.pl rfl) .nil))) (.pl rfl) (fun e he=>by simp only [List.mem_singleton] at he;subst he;exact (.arg (.here .ptr)))
theorem Hc   {c:Ck} {n:Nd} {depth:Int} {yR:Bool} {qc_nodesR:Int} (h:Ca  c n depth=some (yR,qc_nodesR)):Sound P G (.call 126 [.ptr 0 0,.agg (Bq n),.sc (.int .i64 depth)] ⟨[(0,.cells (EB c))],1,[],0⟩ (.ret (.sc (.bool yR))) ⟨[(0,.cells [.sc (.int .i64 qc_nodesR)])],1,[],0⟩):=by
 unfold Ca at h
 refine Di Hd.mixed (Ba Tryz.func126 qV ?_)
 revert h
 refine AB ?_
 rintro ⟨y1a,y1b⟩ hy1
 dsimp only
 let o1:List (PC P G):=[AM (CV (Cy hy1) 0)]
 refine Ai (fun hv=>?_) fun hv=>?_
 subst hv
 refine AB fun y2 hy2=>?_
 let o2:List (PC P G):=o1++[Et (.r (.g (.r (.r (.r (.r (.r (.r (.r (.r (.z (.z (.r .nil))))))))))) .nil)) (Bj hy2)]
 refine Ai (fun hv=>?_) fun hv=>?_
 subst hv
 refine Ai (fun hb1=>?_) fun hb1=>?_
 refine Ai (fun hb2=>?_) fun hb2=>?_
 refine AB ?_
 rintro ⟨y3a,y3b⟩ hy3
 dsimp only
 intro h
 have hE:=Option.some.inj h
 obtain ⟨hE0,hF0⟩:=Prod.mk.inj hE
 subst hE0 hF0
 exact Aq Hd.Ab _ _ [] [none] (Ae 300 (o2++[pb hb1,pb hb2,pk,AM (GV (F0 hy3) 0)])) (by kernel_rfl) .body
 intro h
 have hE:=Option.some.inj h
 obtain ⟨hE0,hF0⟩:=Prod.mk.inj hE
 subst hE0 hF0
 exact Aq Hd.Ab _ _ [] [none] (Ae 300 (o2++[pb hb1,pb hb2])) (by kernel_rfl) .body
 refine Ai (fun hb3=>?_) fun hb3=>?_
 refine AB fun x4 hx4=>?_
 refine AB ?_
 rintro ⟨y5a,y5b⟩ hy5
 dsimp only
 intro h
 have hE:=Option.some.inj h
 obtain ⟨hE0,hF0⟩:=Prod.mk.inj hE
 subst hE0 hF0
 exact Aq Hd.Ab _ _ [] [none] (Ae 300 (o2++[pb hb1,pb hb3,Dw (Dp .lost hx4),pk,AM (AZ (FE hy5) 0)])) (by kernel_rfl) .body
 intro h
 have hE:=Option.some.inj h
 obtain ⟨hE0,hF0⟩:=Prod.mk.inj hE
 subst hE0 hF0
 exact Aq Hd.Ab _ _ [] [none] (Ae 300 (o2++[pb hb1,pb hb3])) (by kernel_rfl) .body
 subst hv
 intro h
 have hE:=Option.some.inj h
 obtain ⟨hE0,hF0⟩:=Prod.mk.inj hE
 subst hE0 hF0
 exact Aq Hd.Ab _ _ [] [none] (Ae 300 o2) (by kernel_rfl) .body
 subst hv
 intro h
 have hE:=Option.some.inj h
 obtain ⟨hE0,hF0⟩:=Prod.mk.inj hE
 subst hE0 hF0
 exact Aq Hd.Ab _ _ [] [none] (Ae 300 o1) (by kernel_rfl) .body
noncomputable def Dk  (depth:Int) (i0:Nat) (e0:Nd) (w0_0:Int):Option (Lp Int Int (Bool×Int)):=(Ca (⟨w0_0⟩:Ck) e0 depth).bind fun (y1a,y1b)=>cond y1a (some (.nx y1b)) (some (.rt (false,y1b)))
noncomputable def CF  (c:Ck) (list:(List Nd)) (depth:Int):Option (Bool×Int):=(G8 list.length (Bk (fun i y x=>Dk  depth i y x) (fun x=>x) (list.drop 0) 0 c.nodes)).bind (Hv (fun (w0_0_2:Int)=>some (true,w0_0_2)) (fun v=>some v))
theorem G6 {c:Ck} {list:(List Nd)} {depth:Int} {yR:Bool} {qc_nodesR:Int} (hS:Sound P G (.call 79 [.ptr 0 0,.sl .lost list.length (B5 list),.sc (.int .i64 depth),.fn (.func 126) [.ptr 0 0] []] ⟨[(0,.cells (EB c))],1,[],0⟩ (.ret (.sc (.bool yR))) ⟨[(0,.cells [.sc (.int .i64 qc_nodesR)])],1,[],0⟩)) (u0:Nat) (hnb:[u0].Nodup:=by decide) (hnt:([]:List Nat).Nodup:=by decide):Cd.ok P G (.callU 79 [.ptr u0 0,.sl .lost list.length (B5 list),.sc (.int .i64 depth),.fn (.func 126) [.ptr u0 0] []] (.ret (.sc (.bool yR))) [(u0,.cells (EB c))] [] [(u0,.cells [.sc (.int .i64 qc_nodesR)])] []) :=
 Dh (M:=[.cells (EB c)]) (M2:=[.cells [.sc (.int .i64 qc_nodesR)]]) (T:=[]) (T2:=[]) (k:=1) (j:=0) Hd.Ab _ _ _ _ hS rfl rfl rfl rfl rfl hnb hnt rfl rfl (.cons (.cells (.pl (IT.pl c))) .nil) (.cons (.cells (.pl (Bi rfl rfl))) .nil) (.cons (.ptr (by decide)) (.cons (.pl (Au.CI list)) (.cons (.pl rfl) (.cons (.fn (.cons (.ptr (by decide)) .nil) (.pl rfl)) .nil)))) (.pl rfl) (fun e he=>by simp only [List.mem_singleton] at he;subst he;exact (.arg (.here .ptr)))
theorem F9   {c:Ck} {list:(List Nd)} {depth:Int} {yR:Bool} {qc_nodesR:Int} (h:CF  c list depth=some (yR,qc_nodesR)):Sound P G (.call 79 [.ptr 0 0,.sl .lost list.length (B5 list),.sc (.int .i64 depth),.fn (.func 126) [.ptr 0 0] []] ⟨[(0,.cells (EB c))],1,[],0⟩ (.ret (.sc (.bool yR))) ⟨[(0,.cells [.sc (.int .i64 qc_nodesR)])],1,[],0⟩):=by
 unfold CF at h
 refine Di Hd.mixed (Ba Tryz.func79 pR ?_)
 revert h
 refine EQ (fun Q v=>GH P G Tryz.f79 1 ⟨[(0,.cells (EB c))],1,[],0⟩ Q (.sc (.bool v.1)) ⟨[(0,.cells [.sc (.int .i64 v.2)])],1,[],0⟩) (fun i0 (w0_0:Int) (j0:List Value)=>fr 23 [(2,.sc (.int .i64 depth)),(3,.fn (.func 126) [.ptr 0 0] []),(11,.sl .lost list.length (B5 list)),(12,.sc (.int .i64 ((list.length:Nat):Int))),(13,.sc (.int .i64 ((i0:Nat):Int)))] [8,14,20,21] j0) (fun (w0_0:Int)=>⟨[(0,.cells [.sc (.int .i64 w0_0)])],1,[],0⟩) (fun (w0_0:Int) (jx:List Value)=>fr 23 [] [8,14,20,21] jx) (fun (w0_0:Int)=>⟨[(0,.cells [.sc (.int .i64 w0_0)])],1,[],0⟩) [.bool false] (EH [] 0 (sb XV 52) [.code (sb XV 7)] (Ae 300 []) (by kernel_rfl)) ?_ ?_ ?_ (fun v h=>by cases h;exact .outer .body)
 rintro i0 w0_0 j0 hge hq
 exact C0 (Ae 300 [pb (I3 hge)]) (by kernel_rfl) (hq (js 4 j0 [(1,.bool false)]))
 rintro i0 e0 w0_0 j0 r he0 hi0 mi0 k
 show Dk  depth i0 e0 w0_0=some r→_
 unfold Dk
 refine AB ?_
 rintro ⟨y1a,y1b⟩ hy1
 dsimp only
 let o1:List (PC P G):=[pb (Gw hi0),Dw (Dp .lost he0),AM (Iq (Hc hy1) 0)]
 refine Ai (fun hv=>?_) fun hv=>?_
 subst hv
 rintro ⟨⟩
 exact BD Hd.Ab [fq (Au.CI list)] [none] (Ae 300 (o1++[pi mi0])) (by kernel_rfl) (k [(jv j0 0),.bool true,.bool true,.bool false])
 subst hv
 rintro ⟨⟩
 exact Aq Hd.Ab _ _ [] [none] (Ae 300 o1) (by kernel_rfl) (.Ia k)
 rintro w0_0_2 jx_2
 intro h
 have hE:=Option.some.inj h
 obtain ⟨hE0,hF0⟩:=Prod.mk.inj hE
 subst hE0 hF0
 exact Aq Hd.Ab _ _ [] [none] (CH 300 []) (by kernel_rfl) .body
noncomputable def pZ:Code:=Bo Tryz.f80
theorem yJ:Tryz.f80.body=some pZ:=by kernel_rfl
noncomputable def Cj  (y1b:Int) (i0:Nat) (e0:Nd) (w2_6:Int) (w2_7:Int) (w2_8:Int):Option (Lp (Int×Int×Int) (Int×Int×Int) (Bool×Int)):=cond (Fu e0.kind 6) (some (.rt (false,y1b))) (cond (Fu 8 e0.kind) (some (.rt (false,y1b))) (cond (CN e0.kind 6) (some (.nx ((BU w2_6 1),w2_7,w2_8))) (cond (CN e0.kind 7) (some (.nx (w2_6,(BU w2_7 1),w2_8))) (cond (CN e0.kind 8) (some (.nx (w2_6,w2_7,(BU w2_8 1)))) (none)))))
noncomputable def Cw  (c:Ck) (n:Nd) (depth:Int):Option (Bool×Int):=(BA c n depth).bind fun (y1a,y1b)=>cond y1a (cond (CN n.kind 2) ((Ct n.name).bind fun y2=>cond y2 ((CK n.unit).bind fun y3=>cond y3 (cond (CN ((n.kids.length:Nat):Int) 0) ((Bl n (⟨0,n.name,n.unit,0,0,0,0,(⟨0,[]⟩:Fn),[],0⟩:Nd)).bind fun y4=>some (y4,y1b)) (some (false,y1b))) (some (false,y1b))) (some (false,y1b))) (cond (CN n.kind 3) ((Ct n.name).bind fun y5=>cond y5 ((CK n.unit).bind fun y6=>cond y6 (cond (OB 1 n.n) (cond (OB n.n 4) (cond (CN ((n.kids.length:Nat):Int) 0) ((Bl n (⟨0,n.name,n.unit,n.n,0,0,0,(⟨0,[]⟩:Fn),[],0⟩:Nd)).bind fun y7=>some (y7,y1b)) (some (false,y1b))) (some (false,y1b))) (some (false,y1b))) (some (false,y1b))) (some (false,y1b))) (cond (CN n.kind 4) ((Cc n.n).bind fun y8=>cond y8 ((Ct n.name).bind fun y9=>cond y9 ((Bl n (⟨0,n.name,ByteArray.empty,n.n,0,0,0,(⟨0,[]⟩:Fn),[],0⟩:Nd)).bind fun y10=>cond y10 (cond (CN ((n.kids.length:Nat):Int) 0) (some (false,y1b)) ((FZ n.kids 1 ((n.kids.length:Nat):Int)).bind fun l11=>(G8 l11.length (Bk (fun i y x=>Cj  y1b i y x.1 x.2.1 x.2.2) (fun x=>(x.1,x.2.1,x.2.2)) (l11.drop 0) 0 (0,0,0))).bind (Hv (fun ((w2_6_12,w2_7_12,w2_8_12):(Int×Int×Int))=>cond (CN w2_8_12 1) (cond (Fu 1 w2_7_12) (some (false,y1b)) ((n.kids[0]?).bind fun x13=>(CX (⟨y1b⟩:Ck) x13 (BU depth 1)).bind fun (y14a,y14b)=>cond y14a ((CF (⟨y14b⟩:Ck) l11 (BU depth 1)).bind fun (y15a,y15b)=>some (y15a,y15b)) (some (false,y14b)))) (some (false,y1b))) (fun v=>some v)))) (some (false,y1b))) (some (false,y1b))) (some (false,y1b))) (some (false,y1b))))) (some (false,y1b))
theorem IX {c:Ck} {n:Nd} {depth:Int} {yR:Bool} {qc_nodesR:Int} (hS:Sound P G (.call 80 [.ptr 0 0,.agg (Bq n),.sc (.int .i64 depth)] ⟨[(0,.cells (EB c))],1,[],0⟩ (.ret (.sc (.bool yR))) ⟨[(0,.cells [.sc (.int .i64 qc_nodesR)])],1,[],0⟩)) (u0:Nat) (hnb:[u0].Nodup:=by decide) (hnt:([]:List Nat).Nodup:=by decide):Cd.ok P G (.callU 80 [.ptr u0 0,.agg (Bq n),.sc (.int .i64 depth)] (.ret (.sc (.bool yR))) [(u0,.cells (EB c))] [] [(u0,.cells [.sc (.int .i64 qc_nodesR)])] []) :=
 Dh (M:=[.cells (EB c)]) (M2:=[.cells [.sc (.int .i64 qc_nodesR)]]) (T:=[]) (T2:=[]) (k:=1) (j:=0) Hd.Ab _ _ _ _ hS rfl rfl rfl rfl rfl hnb hnt rfl rfl (.cons (.cells (.pl (IT.pl c))) .nil) (.cons (.cells (.pl (Bi rfl rfl))) .nil) (.cons (.ptr (by decide)) (.cons (.pl (Au.D1 n)) (.cons (.pl rfl) .nil))) (.pl rfl) (fun e he=>by simp only [List.mem_singleton] at he;subst he;exact (.arg (.here .ptr)))
theorem HZ   {c:Ck} {n:Nd} {depth:Int} {yR:Bool} {qc_nodesR:Int} (h:Cw  c n depth=some (yR,qc_nodesR)):Sound P G (.call 80 [.ptr 0 0,.agg (Bq n),.sc (.int .i64 depth)] ⟨[(0,.cells (EB c))],1,[],0⟩ (.ret (.sc (.bool yR))) ⟨[(0,.cells [.sc (.int .i64 qc_nodesR)])],1,[],0⟩):=by
 unfold Cw at h
 refine Di Hd.mixed (Ba Tryz.func80 yJ ?_)
 revert h
 refine AB ?_
 rintro ⟨y1a,y1b⟩ hy1
 dsimp only
 let o1:List (PC P G):=[AM (CV (Cy hy1) 0)]
 refine Ai (fun hv=>?_) fun hv=>?_
 subst hv
 refine Ai (fun hb1=>?_) fun hb1=>?_
 refine AB fun y2 hy2=>?_
 let o2:List (PC P G):=o1++[pb hb1,Bu (DS hy2)]
 refine Ai (fun hv=>?_) fun hv=>?_
 subst hv
 refine AB fun y3 hy3=>?_
 refine Ai (fun hv=>?_) fun hv=>?_
 subst hv
 refine Ai (fun hb2=>?_) fun hb2=>?_
 refine AB fun y4 hy4=>?_
 intro h
 have hE:=Option.some.inj h
 obtain ⟨hE0,hF0⟩:=Prod.mk.inj hE
 subst hE0 hF0
 exact Aq Hd.Ab _ _ [] [none] (Ae 300 (o2++[Bu (C6 hy3),pb hb2,Et (.r (.g (.r (.r (.r (.r (.r (.r (.r (.r (.z (.z (.r .nil))))))))))) .nil)) (Bj hy4)])) (by kernel_rfl) .body
 intro h
 have hE:=Option.some.inj h
 obtain ⟨hE0,hF0⟩:=Prod.mk.inj hE
 subst hE0 hF0
 exact Aq Hd.Ab _ _ [] [none] (Ae 300 (o2++[Bu (C6 hy3),pb hb2])) (by kernel_rfl) .body
 subst hv
 intro h
 have hE:=Option.some.inj h
 obtain ⟨hE0,hF0⟩:=Prod.mk.inj hE
 subst hE0 hF0
 exact Aq Hd.Ab _ _ [] [none] (Ae 300 (o2++[Bu (C6 hy3)])) (by kernel_rfl) .body
 subst hv
 intro h
 have hE:=Option.some.inj h
 obtain ⟨hE0,hF0⟩:=Prod.mk.inj hE
 subst hE0 hF0
 exact Aq Hd.Ab _ _ [] [none] (Ae 300 o2) (by kernel_rfl) .body
 let o3:List (PC P G):=o1++[pb hb1]
 refine Ai (fun hb3=>?_) fun hb3=>?_
 refine AB fun y5 hy5=>?_
 let o4:List (PC P G):=o3++[pb hb3,Bu (DS hy5)]
 refine Ai (fun hv=>?_) fun hv=>?_
 subst hv
 refine AB fun y6 hy6=>?_
 let o5:List (PC P G):=o4++[Bu (C6 hy6)]
 refine Ai (fun hv=>?_) fun hv=>?_
 subst hv
 refine Ai (fun hb4=>?_) fun hb4=>?_
 refine Ai (fun hb5=>?_) fun hb5=>?_
 refine Ai (fun hb6=>?_) fun hb6=>?_
 refine AB fun y7 hy7=>?_
 intro h
 have hE:=Option.some.inj h
 obtain ⟨hE0,hF0⟩:=Prod.mk.inj hE
 subst hE0 hF0
 exact Aq Hd.Ab _ _ [] [none] (Ae 300 (o5++[pb hb4,pb hb5,pb hb6,Et (.r (.g (.r (.r (.r (.r (.r (.r (.r (.r (.z (.z (.r .nil))))))))))) .nil)) (Bj hy7)])) (by kernel_rfl) .body
 intro h
 have hE:=Option.some.inj h
 obtain ⟨hE0,hF0⟩:=Prod.mk.inj hE
 subst hE0 hF0
 exact Aq Hd.Ab _ _ [] [none] (Ae 300 (o5++[pb hb4,pb hb5,pb hb6])) (by kernel_rfl) .body
 intro h
 have hE:=Option.some.inj h
 obtain ⟨hE0,hF0⟩:=Prod.mk.inj hE
 subst hE0 hF0
 exact Aq Hd.Ab _ _ [] [none] (Ae 300 (o5++[pb hb4,pb hb5])) (by kernel_rfl) .body
 intro h
 have hE:=Option.some.inj h
 obtain ⟨hE0,hF0⟩:=Prod.mk.inj hE
 subst hE0 hF0
 exact Aq Hd.Ab _ _ [] [none] (Ae 300 (o5++[pb hb4])) (by kernel_rfl) .body
 subst hv
 intro h
 have hE:=Option.some.inj h
 obtain ⟨hE0,hF0⟩:=Prod.mk.inj hE
 subst hE0 hF0
 exact Aq Hd.Ab _ _ [] [none] (Ae 300 o5) (by kernel_rfl) .body
 subst hv
 intro h
 have hE:=Option.some.inj h
 obtain ⟨hE0,hF0⟩:=Prod.mk.inj hE
 subst hE0 hF0
 exact Aq Hd.Ab _ _ [] [none] (Ae 300 o4) (by kernel_rfl) .body
 refine Ai (fun hb7=>?_) fun hb7=>?_
 refine AB fun y8 hy8=>?_
 let o6:List (PC P G):=o3++[pb hb3,pb hb7,Bu (DH hy8)]
 refine Ai (fun hv=>?_) fun hv=>?_
 subst hv
 refine AB fun y9 hy9=>?_
 let o7:List (PC P G):=o6++[Bu (DS hy9)]
 refine Ai (fun hv=>?_) fun hv=>?_
 subst hv
 refine AB fun y10 hy10=>?_
 let o8:List (PC P G):=o7++[Et (.r (.g (.r (.r (.r (.r (.r (.r (.r (.r (.z (.z (.r .nil))))))))))) .nil)) (Bj hy10)]
 refine Ai (fun hv=>?_) fun hv=>?_
 subst hv
 refine Ai (fun hb8=>?_) fun hb8=>?_
 intro h
 have hE:=Option.some.inj h
 obtain ⟨hE0,hF0⟩:=Prod.mk.inj hE
 subst hE0 hF0
 exact Aq Hd.Ab _ _ [] [none] (Ae 300 (o8++[pb hb8])) (by kernel_rfl) .body
 refine AB fun l11 hl11=>?_
 refine EQ (fun Q v=>GH P G Tryz.f80 1 ⟨[(0,.cells (EB c))],1,[],0⟩ Q (.sc (.bool v.1)) ⟨[(0,.cells [.sc (.int .i64 v.2)])],1,[],0⟩) (fun i0 ((w2_6,w2_7,w2_8):(Int×Int×Int)) (j0:List Value)=>fr 158 [(0,.ptr 0 0),(2,.sc (.int .i64 depth)),(4,.ptr 1 0),(7,.ptr 2 0),(110,.sl .lost l11.length (B5 l11)),(111,.sc (.int .i64 ((l11.length:Nat):Int))),(112,.sc (.int .i64 ((i0:Nat):Int)))] [6,13,14,17,18,21,22,25,26,27,31,32,33,40,41,42,43,46,47,50,51,52,55,56,57,60,61,62,66,67,68,77,78,79,80,83,84,85,88,89,90,91,98,99,100,101,105,106,113,118,119,122,123,133,134,137,138,146,147,156,157] j0) (fun ((w2_6,w2_7,w2_8):(Int×Int×Int))=>⟨[(2,.cells [.sc (.int .i64 0),.sc (.int .i64 0),.sc (.int .i64 0),.sc (.int .i64 0),.sc (.int .i64 0),.sc (.int .i64 0),.sc (.int .i64 w2_6),.sc (.int .i64 w2_7),.sc (.int .i64 w2_8)]),(1,.cells (Bq n)),(0,.cells [.sc (.int .i64 y1b)])],3,[],0⟩) (fun ((w2_6,w2_7,w2_8):(Int×Int×Int)) (jx:List Value)=>fr 158 [(0,.ptr 0 0),(2,.sc (.int .i64 depth)),(4,.ptr 1 0),(7,.ptr 2 0)] [6,13,14,17,18,21,22,25,26,27,31,32,33,40,41,42,43,46,47,50,51,52,55,56,57,60,61,62,66,67,68,77,78,79,80,83,84,85,88,89,90,91,98,99,100,101,105,106,113,118,119,122,123,133,134,137,138,146,147,156,157] jx) (fun ((w2_6,w2_7,w2_8):(Int×Int×Int))=>⟨[(2,.cells [.sc (.int .i64 0),.sc (.int .i64 0),.sc (.int .i64 0),.sc (.int .i64 0),.sc (.int .i64 0),.sc (.int .i64 0),.sc (.int .i64 w2_6),.sc (.int .i64 w2_7),.sc (.int .i64 w2_8)]),(1,.cells (Bq n)),(0,.cells [.sc (.int .i64 y1b)])],3,[],0⟩) [.bool false,.bool true,.bool false,.bool false,.bool false,undef,undef,undef,undef,undef,undef,undef,undef,undef,undef,.bool false,.bool false,undef,undef,undef,undef,undef,undef,undef,undef,undef,undef,undef,undef,undef,undef,undef,undef,.bool true,.bool true,.bool true,.bool false,.bool false,.bool true,.bool false,.bool false,.bool false,.bool true,.bool false,.bool false,.bool false,.bool false,.bool false] (EH [] 1 (sb pZ 241588) [.code (sb pZ 30199),.endb 0,.code (sb pZ 15)] (Ae 300 (o8++[pb hb8,KA (HH hl11)])) (by kernel_rfl)) ?_ ?_ ?_ (fun v h=>by cases h;exact .outer .body)
 rintro i0 ⟨w2_6,w2_7,w2_8⟩ j0 hge hq
 exact C0 (Ae 300 [pb (I3 hge)]) (by kernel_rfl) (hq (js 61 j0 [(48,.bool false)]))
 rintro i0 e0 ⟨w2_6,w2_7,w2_8⟩ j0 r he0 hi0 mi0 k
 show Cj  y1b i0 e0 w2_6 w2_7 w2_8=some r→_
 unfold Cj
 let o9:List (PC P G):=[pb (Gw hi0),Dw (Dp .lost he0)]
 refine Ai (fun hb9=>?_) fun hb9=>?_
 rintro ⟨⟩
 exact Aq Hd.Ab _ _ [] [none] (Ae 300 (o9++[pb hb9])) (by kernel_rfl) (.Ia k)
 refine Ai (fun hb10=>?_) fun hb10=>?_
 rintro ⟨⟩
 exact Aq Hd.Ab _ _ [] [none] (Ae 300 (o9++[pb hb9,pb hb10])) (by kernel_rfl) (.Ia k)
 refine Ai (fun hb11=>?_) fun hb11=>?_
 rintro ⟨⟩
 exact BD Hd.Ab [fq (Au.CI l11)] [none,bp (Au.pl n),none] (Ae 300 (o9++[pb hb9,pb hb10,Dw (t:=159) (a:=.ptr 2 0) (b:=.sc (.int .i64 e0.kind)) (v:=.ptr 2 6) (by rw [Fk hb11];kernel_rfl),pk,Dw (t:=159) (a:=.ptr 2 0) (b:=.sc (.int .i64 e0.kind)) (v:=.ptr 2 6) (by rw [Fk hb11];kernel_rfl),pi mi0])) (by kernel_rfl) (k (js 61 j0 [(48,.bool true),(49,.bool false),(50,.bool false),(51,.bool false),(52,.bool false)]))
 refine Ai (fun hb12=>?_) fun hb12=>?_
 rintro ⟨⟩
 exact BD Hd.Ab [fq (Au.CI l11)] [none,bp (Au.pl n),none] (Ae 300 (o9++[pb hb9,pb hb10,Dw (t:=159) (a:=.ptr 2 0) (b:=.sc (.int .i64 e0.kind)) (v:=.ptr 2 7) (by rw [Fk hb12];kernel_rfl),pk,Dw (t:=159) (a:=.ptr 2 0) (b:=.sc (.int .i64 e0.kind)) (v:=.ptr 2 7) (by rw [Fk hb12];kernel_rfl),pi mi0])) (by kernel_rfl) (k (js 61 j0 [(48,.bool true),(49,.bool false),(50,.bool false),(51,.bool false),(52,.bool false)]))
 refine Ai (fun hb13=>?_) fun hb13=>?_
 rintro ⟨⟩
 exact BD Hd.Ab [fq (Au.CI l11)] [none,bp (Au.pl n),none] (Ae 300 (o9++[pb hb9,pb hb10,Dw (t:=159) (a:=.ptr 2 0) (b:=.sc (.int .i64 e0.kind)) (v:=.ptr 2 8) (by rw [Fk hb13];kernel_rfl),pk,Dw (t:=159) (a:=.ptr 2 0) (b:=.sc (.int .i64 e0.kind)) (v:=.ptr 2 8) (by rw [Fk hb13];kernel_rfl),pi mi0])) (by kernel_rfl) (k (js 61 j0 [(48,.bool true),(49,.bool false),(50,.bool false),(51,.bool false),(52,.bool false)]))
 exact nT
 rintro ⟨w2_6_12,w2_7_12,w2_8_12⟩ jx_12
 dsimp only
 refine Ai (fun hb14=>?_) fun hb14=>?_
 refine Ai (fun hb15=>?_) fun hb15=>?_
 intro h
 have hE:=Option.some.inj h
 obtain ⟨hE0,hF0⟩:=Prod.mk.inj hE
 subst hE0 hF0
 exact Aq Hd.Ab _ _ [] [none] (CH 300 [pk,pn hb14,pk,pb hb15]) (by kernel_rfl) .body
 refine AB fun x13 hx13=>?_
 refine AB ?_
 rintro ⟨y14a,y14b⟩ hy14
 dsimp only
 let o10:List (PC P G):=[pk,pn hb14,pk,pb hb15,Dw (Dp .lost hx13),pk,AM (IV (HU hy14) 0)]
 refine Ai (fun hv=>?_) fun hv=>?_
 subst hv
 refine AB ?_
 rintro ⟨y15a,y15b⟩ hy15
 dsimp only
 intro h
 have hE:=Option.some.inj h
 obtain ⟨hE0,hF0⟩:=Prod.mk.inj hE
 subst hE0 hF0
 exact Aq Hd.Ab _ _ [] [none] (CH 300 (o10++[KA (HH hl11),pk,AM (G6 (F9 hy15) 0)])) (by kernel_rfl) .body
 subst hv
 intro h
 have hE:=Option.some.inj h
 obtain ⟨hE0,hF0⟩:=Prod.mk.inj hE
 subst hE0 hF0
 exact Aq Hd.Ab _ _ [] [none] (CH 300 o10) (by kernel_rfl) .body
 intro h
 have hE:=Option.some.inj h
 obtain ⟨hE0,hF0⟩:=Prod.mk.inj hE
 subst hE0 hF0
 exact Aq Hd.Ab _ _ [] [none] (CH 300 [pk,pn hb14]) (by kernel_rfl) .body
 subst hv
 intro h
 have hE:=Option.some.inj h
 obtain ⟨hE0,hF0⟩:=Prod.mk.inj hE
 subst hE0 hF0
 exact Aq Hd.Ab _ _ [] [none] (Ae 300 o8) (by kernel_rfl) .body
 subst hv
 intro h
 have hE:=Option.some.inj h
 obtain ⟨hE0,hF0⟩:=Prod.mk.inj hE
 subst hE0 hF0
 exact Aq Hd.Ab _ _ [] [none] (Ae 300 o7) (by kernel_rfl) .body
 subst hv
 intro h
 have hE:=Option.some.inj h
 obtain ⟨hE0,hF0⟩:=Prod.mk.inj hE
 subst hE0 hF0
 exact Aq Hd.Ab _ _ [] [none] (Ae 300 o6) (by kernel_rfl) .body
 intro h
 have hE:=Option.some.inj h
 obtain ⟨hE0,hF0⟩:=Prod.mk.inj hE
 subst hE0 hF0
 exact Aq Hd.Ab _ _ [] [none] (Ae 300 (o3++[pb hb3,pb hb7])) (by kernel_rfl) .body
 subst hv
 intro h
 have hE:=Option.some.inj h
 obtain ⟨hE0,hF0⟩:=Prod.mk.inj hE
 subst hE0 hF0
 exact Aq Hd.Ab _ _ [] [none] (Ae 300 o1) (by kernel_rfl) .body
end Mo
end Go.Proofs.YtnijkdknnmgoeaaGreat
