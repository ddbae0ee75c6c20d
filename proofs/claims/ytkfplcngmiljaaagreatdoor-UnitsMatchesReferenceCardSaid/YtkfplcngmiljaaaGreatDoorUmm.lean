/- Part of a proof: see the last text. -/
import Derived.Test.YtkfplcngmiljaaaGreatDoorUml
set_option linter.unusedVariables false
set_option linter.unusedSimpArgs false
namespace Go.Proofs.YtkfplcngmiljaaaGreatDoor
open AI Go
namespace Mo
set_option maxRecDepth 100000
set_option maxHeartbeats 4000000
noncomputable def wX:Code:=A3 Tryz.f36
theorem b36:Tryz.f36.body=some wX:=by kernel_rfl
noncomputable def CF  (c:Cq) (i:Int) (x1:Nd)  (k7:Int):Option (Lp Int Unit (Unit×(List Dg))):=cond (F4 k7 i) ((LC c.src.kids k7).bind fun x2=>cond (Bq x2.kind x1.kind) (cond (BA x2.name.data.toList x1.name.data.toList) ((AY c 5 x1.att).bind fun (y3a,y3b)=>some (.rt ((),y3b))) (some (.nx (BH k7 1)))) (some (.nx (BH k7 1)))) (some (.ex ()))
noncomputable def BF  (c:Cq) (i:Int) (many:Int):Option (Unit×(List Dg)):=(LC c.src.kids i).bind fun x1=>(U5 (fun x=>CF  c i x1 x) 0).bind (Ii (fun (_:Unit)=>cond (KL 32 many) ((AY c 2 x1.att).bind fun (y5a,y5b)=>some ((),y5b)) (cond (Bq x1.kind 3) (cond (BA x1.unit.data.toList AO.data.toList) ((AY c 11 x1.att).bind fun (y6a,y6b)=>some ((),y6b)) (cond (Bq x1.n 4) (some ((),c.diags)) ((Db x1.unit).bind fun y7=>cond y7 (some ((),c.diags)) ((AY c 11 x1.att).bind fun (y8a,y8b)=>some ((),y8b))))) (some ((),c.diags)))) (fun v=>some v))
theorem Fh {c:Cq} {i:Int} {many:Int} {qc_diagsR:(List Dg)} (hS:Sound P G (.call 36 [.ptr 0 0,.sc (.int .i64 i),.sc (.int .i64 many)] ⟨[(0,.cells (GQ 0 c))],1,[(0,c.diags.length)],1⟩ (.ret (.A9 [])) ⟨[(0,.cells [.sc (.int .i64 c.src.kind),.sc (.string c.src.name),.sc (.string c.src.unit),.sc (.int .i64 c.src.n),.sc (.int .i64 c.src.fr),.sc (.int .i64 c.src.to),.sc (.int .i64 c.src.known),.sc (.int .i64 c.src.tab.den),.sl .lost c.src.tab.ps.length (rows El c.src.tab.ps),.sl .lost c.src.kids.length (Ba c.src.kids),.sc (.int .i64 c.src.att),.sl (.row 0 2) qc_diagsR.length (rows BV qc_diagsR)])],1,[(0,qc_diagsR.length)],1⟩)) (u0 v0:Nat) (hnb:[u0].Nodup:=by decide) (hnt:([v0]:List Nat).Nodup:=by decide):Cd.ok P G (.callU 36 [.ptr u0 0,.sc (.int .i64 i),.sc (.int .i64 many)] (.ret (.A9 [])) [(u0,.cells (GQ v0 c))] [(v0,c.diags.length)] [(u0,.cells [.sc (.int .i64 c.src.kind),.sc (.string c.src.name),.sc (.string c.src.unit),.sc (.int .i64 c.src.n),.sc (.int .i64 c.src.fr),.sc (.int .i64 c.src.to),.sc (.int .i64 c.src.known),.sc (.int .i64 c.src.tab.den),.sl .lost c.src.tab.ps.length (rows El c.src.tab.ps),.sl .lost c.src.kids.length (Ba c.src.kids),.sc (.int .i64 c.src.att),.sl (.row v0 2) qc_diagsR.length (rows BV qc_diagsR)])] [(v0,qc_diagsR.length)]) :=
 DE (M:=[.cells (GQ 0 c)]) (M2:=[.cells [.sc (.int .i64 c.src.kind),.sc (.string c.src.name),.sc (.string c.src.unit),.sc (.int .i64 c.src.n),.sc (.int .i64 c.src.fr),.sc (.int .i64 c.src.to),.sc (.int .i64 c.src.known),.sc (.int .i64 c.src.tab.den),.sl .lost c.src.tab.ps.length (rows El c.src.tab.ps),.sl .lost c.src.kids.length (Ba c.src.kids),.sc (.int .i64 c.src.att),.sl (.row 0 2) qc_diagsR.length (rows BV qc_diagsR)]]) (T:=[c.diags.length]) (T2:=[qc_diagsR.length]) (k:=1) (j:=1) Hd.Aa _ _ _ _ hS rfl rfl rfl rfl rfl hnb hnt rfl rfl (.cons (.cells (K6 c (by decide))) .nil) (.cons (.cells (.cons (.pl rfl) (.cons (.pl rfl) (.cons (.pl rfl) (.cons (.pl rfl) (.cons (.pl rfl) (.cons (.pl rfl) (.cons (.pl rfl) (.cons (.pl rfl) (.cons (.pl (CS.B9 c.src.tab.ps)) (.cons (.pl (Al.B9 c.src.kids)) (.cons (.pl rfl) (.cons (.row (by decide) (AF.A2 qc_diagsR)) .nil))))))))))))) .nil) (.cons (.ptr (by decide)) (.cons (.pl rfl) (.cons (.pl rfl) .nil))) (.pl rfl) (fun e he=>by simp only [List.mem_singleton] at he;subst he;exact (.arg (.here .ptr)))
theorem EE   {c:Cq} {i:Int} {many:Int} {yR:Unit} {qc_diagsR:(List Dg)} (h:BF  c i many=some (yR,qc_diagsR)):Sound P G (.call 36 [.ptr 0 0,.sc (.int .i64 i),.sc (.int .i64 many)] ⟨[(0,.cells (GQ 0 c))],1,[(0,c.diags.length)],1⟩ (.ret (.A9 [])) ⟨[(0,.cells [.sc (.int .i64 c.src.kind),.sc (.string c.src.name),.sc (.string c.src.unit),.sc (.int .i64 c.src.n),.sc (.int .i64 c.src.fr),.sc (.int .i64 c.src.to),.sc (.int .i64 c.src.known),.sc (.int .i64 c.src.tab.den),.sl .lost c.src.tab.ps.length (rows El c.src.tab.ps),.sl .lost c.src.kids.length (Ba c.src.kids),.sc (.int .i64 c.src.att),.sl (.row 0 2) qc_diagsR.length (rows BV qc_diagsR)])],1,[(0,qc_diagsR.length)],1⟩):=by
 unfold BF at h
 refine DI Hd.mixed (AB Tryz.func36 b36 ?_)
 revert h
 refine Ah fun x1 hx1=>?_
 refine xJ (fun Q v=>Je P G Tryz.f36 1 ⟨[(0,.cells (GQ 0 c))],1,[(0,c.diags.length)],1⟩ Q (.A9 []) ⟨[(0,.cells [.sc (.int .i64 c.src.kind),.sc (.string c.src.name),.sc (.string c.src.unit),.sc (.int .i64 c.src.n),.sc (.int .i64 c.src.fr),.sc (.int .i64 c.src.to),.sc (.int .i64 c.src.known),.sc (.int .i64 c.src.tab.den),.sl .lost c.src.tab.ps.length (rows El c.src.tab.ps),.sl .lost c.src.kids.length (Ba c.src.kids),.sc (.int .i64 c.src.att),.sl (.row 0 2) v.2.length (rows BV v.2)])],1,[(0,v.2.length)],1⟩) (fun (k7:Int) (j0:List Value)=>fr 80 [(0,.ptr 0 0),(1,.sc (.int .i64 i)),(2,.sc (.int .i64 many)),(6,.ptr 1 0),(7,.sc (.int .i64 k7))] [18,32,33,45,46,52,59,60,63,64,67,68,71,72,73,74,75] j0) (fun (k7:Int)=>⟨[(1,.cells (Bl x1)),(0,.cells (GQ 0 c))],2,[(0,c.diags.length)],1⟩) (fun (_:Unit) (jx:List Value)=>fr 80 [(0,.ptr 0 0),(2,.sc (.int .i64 many)),(6,.ptr 1 0)] [18,32,33,45,46,52,59,60,63,64,67,68,71,72,73,74,75] jx) (fun (_:Unit)=>⟨[(1,.cells (Bl x1)),(0,.cells (GQ 0 c))],2,[(0,c.diags.length)],1⟩) [] (EO [] 0 (sb wX 52) [.code (sb wX 7)] (Ab 300 [Ct (Q7 .lost hx1)]) (by kernel_rfl)) ?_ ?_ (fun v h=>by cases h;exact .outer .body)
 rintro k7 j0 r k
 show CF  c i x1 k7=some r→_
 unfold CF
 refine Ae (fun hb1=>?_) fun hb1=>?_
 refine Ah fun x2 hx2=>?_
 refine Ae (fun hb2=>?_) fun hb2=>?_
 refine Ae (fun hb3=>?_) fun hb3=>?_
 refine Ah ?_
 rintro ⟨y3a,y3b⟩ hy3
 dsimp only
 rintro ⟨⟩
 exact An Hd.Aa _ _ [⟨.A9 [],.A9 [],(.plain rfl)⟩] [bu [.sc (.int .i64 c.src.kind),.sc (.string c.src.name),.sc (.string c.src.unit),.sc (.int .i64 c.src.n),.sc (.int .i64 c.src.fr),.sc (.int .i64 c.src.to),.sc (.int .i64 c.src.known),.sc (.int .i64 c.src.tab.den),.sl .lost c.src.tab.ps.length (rows El c.src.tab.ps),.sl .lost c.src.kids.length (Ba c.src.kids),.sc (.int .i64 c.src.att),.sl (.row 0 2) y3b.length (rows BV y3b)] (A5 rfl (A5 rfl (A5 rfl (A5 rfl (A5 rfl (A5 rfl (A5 rfl (A5 rfl (A5 (Am _ _ (CS.B9 c.src.tab.ps)) (A5 (Am _ _ (Al.B9 c.src.kids)) (A5 rfl (A5 (IQ rfl (AJ _ _ (AF.A2 y3b))) rfl))))))))))))] (Ab 300 [pb hb1,Ct (Q7 .lost hx2),pb hb2,Ct (Q7 .lost hx2),pb hb3,Ay (Bd (A7 hy3) 0 0)]) (by kernel_rfl) (.GS k)
 rintro ⟨⟩
 exact D6 (Ab 300 [pb hb1,Ct (Q7 .lost hx2),pb hb2,Ct (Q7 .lost hx2),pb hb3,pk]) (by kernel_rfl) (k (js 17 j0 [(0,.bool true),(1,.bool true),(2,.bool true),(3,.bool false),(4,.bool false)]))
 rintro ⟨⟩
 exact D6 (Ab 300 [pb hb1,Ct (Q7 .lost hx2),pb hb2,pk]) (by kernel_rfl) (k (js 17 j0 [(0,.bool true),(1,.bool false),(2,.bool false),(3,undef),(4,.bool false)]))
 rintro ⟨⟩
 exact CT (Ab 300 [pb hb1]) (by kernel_rfl) (k (js 17 j0 [(0,.bool false)]))
 rintro ⟨⟩ jx_4
 refine Ae (fun hb4=>?_) fun hb4=>?_
 refine Ah ?_
 rintro ⟨y5a,y5b⟩ hy5
 dsimp only
 intro h
 have hE:=Option.some.inj h
 obtain ⟨hE0,hF0⟩:=Prod.mk.inj hE
 subst hE0 hF0
 exact An Hd.Aa _ _ [⟨.A9 [],.A9 [],(.plain rfl)⟩] [bu [.sc (.int .i64 c.src.kind),.sc (.string c.src.name),.sc (.string c.src.unit),.sc (.int .i64 c.src.n),.sc (.int .i64 c.src.fr),.sc (.int .i64 c.src.to),.sc (.int .i64 c.src.known),.sc (.int .i64 c.src.tab.den),.sl .lost c.src.tab.ps.length (rows El c.src.tab.ps),.sl .lost c.src.kids.length (Ba c.src.kids),.sc (.int .i64 c.src.att),.sl (.row 0 2) y5b.length (rows BV y5b)] (A5 rfl (A5 rfl (A5 rfl (A5 rfl (A5 rfl (A5 rfl (A5 rfl (A5 rfl (A5 (Am _ _ (CS.B9 c.src.tab.ps)) (A5 (Am _ _ (Al.B9 c.src.kids)) (A5 rfl (A5 (IQ rfl (AJ _ _ (AF.A2 y5b))) rfl))))))))))))] (Cc 300 [pb hb4,Ay (Bd (A7 hy5) 0 0)]) (by kernel_rfl) .body
 refine Ae (fun hb5=>?_) fun hb5=>?_
 refine Ae (fun hb6=>?_) fun hb6=>?_
 refine Ah ?_
 rintro ⟨y6a,y6b⟩ hy6
 dsimp only
 intro h
 have hE:=Option.some.inj h
 obtain ⟨hE0,hF0⟩:=Prod.mk.inj hE
 subst hE0 hF0
 exact D1 Hd.Aa _ _ [⟨.A9 [],.A9 [],(.plain rfl)⟩] [bu [.sc (.int .i64 c.src.kind),.sc (.string c.src.name),.sc (.string c.src.unit),.sc (.int .i64 c.src.n),.sc (.int .i64 c.src.fr),.sc (.int .i64 c.src.to),.sc (.int .i64 c.src.known),.sc (.int .i64 c.src.tab.den),.sl .lost c.src.tab.ps.length (rows El c.src.tab.ps),.sl .lost c.src.kids.length (Ba c.src.kids),.sc (.int .i64 c.src.att),.sl (.row 0 2) y6b.length (rows BV y6b)] (A5 rfl (A5 rfl (A5 rfl (A5 rfl (A5 rfl (A5 rfl (A5 rfl (A5 rfl (A5 (Am _ _ (CS.B9 c.src.tab.ps)) (A5 (Am _ _ (Al.B9 c.src.kids)) (A5 rfl (A5 (IQ rfl (AJ _ _ (AF.A2 y6b))) rfl))))))))))))] (Cc 300 [pb hb4,pb hb5,pb hb6,Ay (Bd (A7 hy6) 0 0)]) (by kernel_rfl)
 refine Ae (fun hb7=>?_) fun hb7=>?_
 intro h
 have hE:=Option.some.inj h
 obtain ⟨hE0,hF0⟩:=Prod.mk.inj hE
 subst hE0 hF0
 exact D1 Hd.Aa _ _ [⟨.A9 [],.A9 [],(.plain rfl)⟩] [bu (GQ 0 c) (F5 rfl)] (Cc 300 [pb hb4,pb hb5,pb hb6,pn hb7]) (by kernel_rfl)
 refine Ah fun y7 hy7=>?_
 refine Ae (fun hv=>?_) fun hv=>?_
 subst hv
 intro h
 have hE:=Option.some.inj h
 obtain ⟨hE0,hF0⟩:=Prod.mk.inj hE
 subst hE0 hF0
 exact D1 Hd.Aa _ _ [⟨.A9 [],.A9 [],(.plain rfl)⟩] [bu (GQ 0 c) (F5 rfl)] (Cc 300 [pb hb4,pb hb5,pb hb6,pn hb7,Ak (DB hy7)]) (by kernel_rfl)
 subst hv
 refine Ah ?_
 rintro ⟨y8a,y8b⟩ hy8
 dsimp only
 intro h
 have hE:=Option.some.inj h
 obtain ⟨hE0,hF0⟩:=Prod.mk.inj hE
 subst hE0 hF0
 exact D1 Hd.Aa _ _ [⟨.A9 [],.A9 [],(.plain rfl)⟩] [bu [.sc (.int .i64 c.src.kind),.sc (.string c.src.name),.sc (.string c.src.unit),.sc (.int .i64 c.src.n),.sc (.int .i64 c.src.fr),.sc (.int .i64 c.src.to),.sc (.int .i64 c.src.known),.sc (.int .i64 c.src.tab.den),.sl .lost c.src.tab.ps.length (rows El c.src.tab.ps),.sl .lost c.src.kids.length (Ba c.src.kids),.sc (.int .i64 c.src.att),.sl (.row 0 2) y8b.length (rows BV y8b)] (A5 rfl (A5 rfl (A5 rfl (A5 rfl (A5 rfl (A5 rfl (A5 rfl (A5 rfl (A5 (Am _ _ (CS.B9 c.src.tab.ps)) (A5 (Am _ _ (Al.B9 c.src.kids)) (A5 rfl (A5 (IQ rfl (AJ _ _ (AF.A2 y8b))) rfl))))))))))))] (Cc 300 [pb hb4,pb hb5,pb hb6,pn hb7,Ak (DB hy7),Ay (Bd (A7 hy8) 0 0)]) (by kernel_rfl)
 intro h
 have hE:=Option.some.inj h
 obtain ⟨hE0,hF0⟩:=Prod.mk.inj hE
 subst hE0 hF0
 exact D1 Hd.Aa _ _ [⟨.A9 [],.A9 [],(.plain rfl)⟩] [bu (GQ 0 c) (F5 rfl)] (Cc 300 [pb hb4,pb hb5]) (by kernel_rfl)
noncomputable def B37:Code:=A3 Tryz.f37
theorem b37:Tryz.f37.body=some B37:=by kernel_rfl
noncomputable def Dj  (c:Cq) (n:Nd) (many:Int):Option (Unit×(List Dg)):=(DL c.src 3 n.name).bind fun (y1a,y1b)=>(DA c.src n.n).bind fun (y2a,y2b)=>cond (KL 60 many) ((AY c 2 n.att).bind fun (y3a,y3b)=>some ((),y3b)) (cond y1b (cond (BA y2a.name.data.toList n.name.data.toList) (some ((),c.diags)) ((AY c 101 n.att).bind fun (y4a,y4b)=>some ((),y4b))) ((AY c 91 n.att).bind fun (y5a,y5b)=>some ((),y5b)))
theorem K9 {c:Cq} {n:Nd} {many:Int} {qc_diagsR:(List Dg)} (hS:Sound P G (.call 37 [.ptr 0 0,.agg (Bl n),.sc (.int .i64 many)] ⟨[(0,.cells (GQ 0 c))],1,[(0,c.diags.length)],1⟩ (.ret (.A9 [])) ⟨[(0,.cells [.sc (.int .i64 c.src.kind),.sc (.string c.src.name),.sc (.string c.src.unit),.sc (.int .i64 c.src.n),.sc (.int .i64 c.src.fr),.sc (.int .i64 c.src.to),.sc (.int .i64 c.src.known),.sc (.int .i64 c.src.tab.den),.sl .lost c.src.tab.ps.length (rows El c.src.tab.ps),.sl .lost c.src.kids.length (Ba c.src.kids),.sc (.int .i64 c.src.att),.sl (.row 0 2) qc_diagsR.length (rows BV qc_diagsR)])],1,[(0,qc_diagsR.length)],1⟩)) (u0 v0:Nat) (hnb:[u0].Nodup:=by decide) (hnt:([v0]:List Nat).Nodup:=by decide):Cd.ok P G (.callU 37 [.ptr u0 0,.agg (Bl n),.sc (.int .i64 many)] (.ret (.A9 [])) [(u0,.cells (GQ v0 c))] [(v0,c.diags.length)] [(u0,.cells [.sc (.int .i64 c.src.kind),.sc (.string c.src.name),.sc (.string c.src.unit),.sc (.int .i64 c.src.n),.sc (.int .i64 c.src.fr),.sc (.int .i64 c.src.to),.sc (.int .i64 c.src.known),.sc (.int .i64 c.src.tab.den),.sl .lost c.src.tab.ps.length (rows El c.src.tab.ps),.sl .lost c.src.kids.length (Ba c.src.kids),.sc (.int .i64 c.src.att),.sl (.row v0 2) qc_diagsR.length (rows BV qc_diagsR)])] [(v0,qc_diagsR.length)]) :=
 DE (M:=[.cells (GQ 0 c)]) (M2:=[.cells [.sc (.int .i64 c.src.kind),.sc (.string c.src.name),.sc (.string c.src.unit),.sc (.int .i64 c.src.n),.sc (.int .i64 c.src.fr),.sc (.int .i64 c.src.to),.sc (.int .i64 c.src.known),.sc (.int .i64 c.src.tab.den),.sl .lost c.src.tab.ps.length (rows El c.src.tab.ps),.sl .lost c.src.kids.length (Ba c.src.kids),.sc (.int .i64 c.src.att),.sl (.row 0 2) qc_diagsR.length (rows BV qc_diagsR)]]) (T:=[c.diags.length]) (T2:=[qc_diagsR.length]) (k:=1) (j:=1) Hd.Aa _ _ _ _ hS rfl rfl rfl rfl rfl hnb hnt rfl rfl (.cons (.cells (K6 c (by decide))) .nil) (.cons (.cells (.cons (.pl rfl) (.cons (.pl rfl) (.cons (.pl rfl) (.cons (.pl rfl) (.cons (.pl rfl) (.cons (.pl rfl) (.cons (.pl rfl) (.cons (.pl rfl) (.cons (.pl (CS.B9 c.src.tab.ps)) (.cons (.pl (Al.B9 c.src.kids)) (.cons (.pl rfl) (.cons (.row (by decide) (AF.A2 qc_diagsR)) .nil))))))))))))) .nil) (.cons (.ptr (by decide)) (.cons (.pl (Al.GB n)) (.cons (.pl rfl) .nil))) (.pl rfl) (fun e he=>by simp only [List.mem_singleton] at he;subst he;exact (.arg (.here .ptr)))
theorem JV   {c:Cq} {n:Nd} {many:Int} {yR:Unit} {qc_diagsR:(List Dg)} (h:Dj  c n many=some (yR,qc_diagsR)):Sound P G (.call 37 [.ptr 0 0,.agg (Bl n),.sc (.int .i64 many)] ⟨[(0,.cells (GQ 0 c))],1,[(0,c.diags.length)],1⟩ (.ret (.A9 [])) ⟨[(0,.cells [.sc (.int .i64 c.src.kind),.sc (.string c.src.name),.sc (.string c.src.unit),.sc (.int .i64 c.src.n),.sc (.int .i64 c.src.fr),.sc (.int .i64 c.src.to),.sc (.int .i64 c.src.known),.sc (.int .i64 c.src.tab.den),.sl .lost c.src.tab.ps.length (rows El c.src.tab.ps),.sl .lost c.src.kids.length (Ba c.src.kids),.sc (.int .i64 c.src.att),.sl (.row 0 2) qc_diagsR.length (rows BV qc_diagsR)])],1,[(0,qc_diagsR.length)],1⟩):=by
 unfold Dj at h
 refine DI Hd.mixed (AB Tryz.func37 b37 ?_)
 revert h
 refine Ah ?_
 rintro ⟨y1a,y1b⟩ hy1
 dsimp only
 refine Ah ?_
 rintro ⟨y2a,y2b⟩ hy2
 dsimp only
 let o1:List (PC P G):=[Ak (FT hy1),Ak (Gr hy2)]
 refine Ae (fun hb1=>?_) fun hb1=>?_
 refine Ah ?_
 rintro ⟨y3a,y3b⟩ hy3
 dsimp only
 intro h
 have hE:=Option.some.inj h
 obtain ⟨hE0,hF0⟩:=Prod.mk.inj hE
 subst hE0 hF0
 exact D1 Hd.Aa _ _ [⟨.A9 [],.A9 [],(.plain rfl)⟩] [bu [.sc (.int .i64 c.src.kind),.sc (.string c.src.name),.sc (.string c.src.unit),.sc (.int .i64 c.src.n),.sc (.int .i64 c.src.fr),.sc (.int .i64 c.src.to),.sc (.int .i64 c.src.known),.sc (.int .i64 c.src.tab.den),.sl .lost c.src.tab.ps.length (rows El c.src.tab.ps),.sl .lost c.src.kids.length (Ba c.src.kids),.sc (.int .i64 c.src.att),.sl (.row 0 2) y3b.length (rows BV y3b)] (A5 rfl (A5 rfl (A5 rfl (A5 rfl (A5 rfl (A5 rfl (A5 rfl (A5 rfl (A5 (Am _ _ (CS.B9 c.src.tab.ps)) (A5 (Am _ _ (Al.B9 c.src.kids)) (A5 rfl (A5 (IQ rfl (AJ _ _ (AF.A2 y3b))) rfl))))))))))))] (Ab 300 (o1++[pb hb1,Ay (Bd (A7 hy3) 0 0)])) (by kernel_rfl)
 refine Ae (fun hv=>?_) fun hv=>?_
 subst hv
 refine Ae (fun hb2=>?_) fun hb2=>?_
 intro h
 have hE:=Option.some.inj h
 obtain ⟨hE0,hF0⟩:=Prod.mk.inj hE
 subst hE0 hF0
 exact D1 Hd.Aa _ _ [⟨.A9 [],.A9 [],(.plain rfl)⟩] [bu (GQ 0 c) (F5 rfl)] (Ab 300 (o1++[pb hb1,pn hb2])) (by kernel_rfl)
 refine Ah ?_
 rintro ⟨y4a,y4b⟩ hy4
 dsimp only
 intro h
 have hE:=Option.some.inj h
 obtain ⟨hE0,hF0⟩:=Prod.mk.inj hE
 subst hE0 hF0
 exact D1 Hd.Aa _ _ [⟨.A9 [],.A9 [],(.plain rfl)⟩] [bu [.sc (.int .i64 c.src.kind),.sc (.string c.src.name),.sc (.string c.src.unit),.sc (.int .i64 c.src.n),.sc (.int .i64 c.src.fr),.sc (.int .i64 c.src.to),.sc (.int .i64 c.src.known),.sc (.int .i64 c.src.tab.den),.sl .lost c.src.tab.ps.length (rows El c.src.tab.ps),.sl .lost c.src.kids.length (Ba c.src.kids),.sc (.int .i64 c.src.att),.sl (.row 0 2) y4b.length (rows BV y4b)] (A5 rfl (A5 rfl (A5 rfl (A5 rfl (A5 rfl (A5 rfl (A5 rfl (A5 rfl (A5 (Am _ _ (CS.B9 c.src.tab.ps)) (A5 (Am _ _ (Al.B9 c.src.kids)) (A5 rfl (A5 (IQ rfl (AJ _ _ (AF.A2 y4b))) rfl))))))))))))] (Ab 300 (o1++[pb hb1,pn hb2,Ay (Bd (A7 hy4) 0 0)])) (by kernel_rfl)
 subst hv
 refine Ah ?_
 rintro ⟨y5a,y5b⟩ hy5
 dsimp only
 intro h
 have hE:=Option.some.inj h
 obtain ⟨hE0,hF0⟩:=Prod.mk.inj hE
 subst hE0 hF0
 exact D1 Hd.Aa _ _ [⟨.A9 [],.A9 [],(.plain rfl)⟩] [bu [.sc (.int .i64 c.src.kind),.sc (.string c.src.name),.sc (.string c.src.unit),.sc (.int .i64 c.src.n),.sc (.int .i64 c.src.fr),.sc (.int .i64 c.src.to),.sc (.int .i64 c.src.known),.sc (.int .i64 c.src.tab.den),.sl .lost c.src.tab.ps.length (rows El c.src.tab.ps),.sl .lost c.src.kids.length (Ba c.src.kids),.sc (.int .i64 c.src.att),.sl (.row 0 2) y5b.length (rows BV y5b)] (A5 rfl (A5 rfl (A5 rfl (A5 rfl (A5 rfl (A5 rfl (A5 rfl (A5 rfl (A5 (Am _ _ (CS.B9 c.src.tab.ps)) (A5 (Am _ _ (Al.B9 c.src.kids)) (A5 rfl (A5 (IQ rfl (AJ _ _ (AF.A2 y5b))) rfl))))))))))))] (Ab 300 (o1++[pb hb1,Ay (Bd (A7 hy5) 0 0)])) (by kernel_rfl)
noncomputable def B62:Code:=A3 Tryz.f62
theorem b62:Tryz.f62.body=some B62:=by kernel_rfl
noncomputable def CN  (c:Cq) (e:Nd) (unit:ByteArray):Option (Unit×(List Dg)):=(Ec c e).bind fun (y1a,y1b)=>cond (BA y1a.data.toList ByteArray.empty.data.toList) (some ((),y1b)) (cond (BA unit.data.toList ByteArray.empty.data.toList) (some ((),y1b)) (cond (BA y1a.data.toList unit.data.toList) (some ((),y1b)) ((AY (⟨c.src,y1b⟩:Cq) 11 e.att).bind fun (y2a,y2b)=>some ((),y2b))))
theorem H8 {c:Cq} {e:Nd} {unit:ByteArray} {qc_diagsR:(List Dg)} (hS:Sound P G (.call 62 [.ptr 0 0,.agg (Bl e),.sc (.string unit)] ⟨[(0,.cells (GQ 0 c))],1,[(0,c.diags.length)],1⟩ (.ret (.A9 [])) ⟨[(0,.cells [.sc (.int .i64 c.src.kind),.sc (.string c.src.name),.sc (.string c.src.unit),.sc (.int .i64 c.src.n),.sc (.int .i64 c.src.fr),.sc (.int .i64 c.src.to),.sc (.int .i64 c.src.known),.sc (.int .i64 c.src.tab.den),.sl .lost c.src.tab.ps.length (rows El c.src.tab.ps),.sl .lost c.src.kids.length (Ba c.src.kids),.sc (.int .i64 c.src.att),.sl (.row 0 2) qc_diagsR.length (rows BV qc_diagsR)])],1,[(0,qc_diagsR.length)],1⟩)) (u0 v0:Nat) (hnb:[u0].Nodup:=by decide) (hnt:([v0]:List Nat).Nodup:=by decide):Cd.ok P G (.callU 62 [.ptr u0 0,.agg (Bl e),.sc (.string unit)] (.ret (.A9 [])) [(u0,.cells (GQ v0 c))] [(v0,c.diags.length)] [(u0,.cells [.sc (.int .i64 c.src.kind),.sc (.string c.src.name),.sc (.string c.src.unit),.sc (.int .i64 c.src.n),.sc (.int .i64 c.src.fr),.sc (.int .i64 c.src.to),.sc (.int .i64 c.src.known),.sc (.int .i64 c.src.tab.den),.sl .lost c.src.tab.ps.length (rows El c.src.tab.ps),.sl .lost c.src.kids.length (Ba c.src.kids),.sc (.int .i64 c.src.att),.sl (.row v0 2) qc_diagsR.length (rows BV qc_diagsR)])] [(v0,qc_diagsR.length)]) :=
 DE (M:=[.cells (GQ 0 c)]) (M2:=[.cells [.sc (.int .i64 c.src.kind),.sc (.string c.src.name),.sc (.string c.src.unit),.sc (.int .i64 c.src.n),.sc (.int .i64 c.src.fr),.sc (.int .i64 c.src.to),.sc (.int .i64 c.src.known),.sc (.int .i64 c.src.tab.den),.sl .lost c.src.tab.ps.length (rows El c.src.tab.ps),.sl .lost c.src.kids.length (Ba c.src.kids),.sc (.int .i64 c.src.att),.sl (.row 0 2) qc_diagsR.length (rows BV qc_diagsR)]]) (T:=[c.diags.length]) (T2:=[qc_diagsR.length]) (k:=1) (j:=1) Hd.Aa _ _ _ _ hS rfl rfl rfl rfl rfl hnb hnt rfl rfl (.cons (.cells (K6 c (by decide))) .nil) (.cons (.cells (.cons (.pl rfl) (.cons (.pl rfl) (.cons (.pl rfl) (.cons (.pl rfl) (.cons (.pl rfl) (.cons (.pl rfl) (.cons (.pl rfl) (.cons (.pl rfl) (.cons (.pl (CS.B9 c.src.tab.ps)) (.cons (.pl (Al.B9 c.src.kids)) (.cons (.pl rfl) (.cons (.row (by decide) (AF.A2 qc_diagsR)) .nil))))))))))))) .nil) (.cons (.ptr (by decide)) (.cons (.pl (Al.GB e)) (.cons (.pl rfl) .nil))) (.pl rfl) (fun e he=>by simp only [List.mem_singleton] at he;subst he;exact (.arg (.here .ptr)))
theorem Gy   {c:Cq} {e:Nd} {unit:ByteArray} {yR:Unit} {qc_diagsR:(List Dg)} (h:CN  c e unit=some (yR,qc_diagsR)):Sound P G (.call 62 [.ptr 0 0,.agg (Bl e),.sc (.string unit)] ⟨[(0,.cells (GQ 0 c))],1,[(0,c.diags.length)],1⟩ (.ret (.A9 [])) ⟨[(0,.cells [.sc (.int .i64 c.src.kind),.sc (.string c.src.name),.sc (.string c.src.unit),.sc (.int .i64 c.src.n),.sc (.int .i64 c.src.fr),.sc (.int .i64 c.src.to),.sc (.int .i64 c.src.known),.sc (.int .i64 c.src.tab.den),.sl .lost c.src.tab.ps.length (rows El c.src.tab.ps),.sl .lost c.src.kids.length (Ba c.src.kids),.sc (.int .i64 c.src.att),.sl (.row 0 2) qc_diagsR.length (rows BV qc_diagsR)])],1,[(0,qc_diagsR.length)],1⟩):=by
 unfold CN at h
 refine DI Hd.mixed (AB Tryz.func62 b62 ?_)
 revert h
 refine Ah ?_
 rintro ⟨y1a,y1b⟩ hy1
 dsimp only
 let o1:List (PC P G):=[Ay (Fx (Hc hy1) 0 0)]
 refine Ae (fun hb1=>?_) fun hb1=>?_
 intro h
 have hE:=Option.some.inj h
 obtain ⟨hE0,hF0⟩:=Prod.mk.inj hE
 subst hE0 hF0
 exact D1 Hd.Aa _ _ [⟨.A9 [],.A9 [],(.plain rfl)⟩] [bu [.sc (.int .i64 c.src.kind),.sc (.string c.src.name),.sc (.string c.src.unit),.sc (.int .i64 c.src.n),.sc (.int .i64 c.src.fr),.sc (.int .i64 c.src.to),.sc (.int .i64 c.src.known),.sc (.int .i64 c.src.tab.den),.sl .lost c.src.tab.ps.length (rows El c.src.tab.ps),.sl .lost c.src.kids.length (Ba c.src.kids),.sc (.int .i64 c.src.att),.sl (.row 0 2) y1b.length (rows BV y1b)] (A5 rfl (A5 rfl (A5 rfl (A5 rfl (A5 rfl (A5 rfl (A5 rfl (A5 rfl (A5 (Am _ _ (CS.B9 c.src.tab.ps)) (A5 (Am _ _ (Al.B9 c.src.kids)) (A5 rfl (A5 (IQ rfl (AJ _ _ (AF.A2 y1b))) rfl))))))))))))] (Ab 300 (o1++[pn hb1])) (by kernel_rfl)
 refine Ae (fun hb2=>?_) fun hb2=>?_
 intro h
 have hE:=Option.some.inj h
 obtain ⟨hE0,hF0⟩:=Prod.mk.inj hE
 subst hE0 hF0
 exact D1 Hd.Aa _ _ [⟨.A9 [],.A9 [],(.plain rfl)⟩] [bu [.sc (.int .i64 c.src.kind),.sc (.string c.src.name),.sc (.string c.src.unit),.sc (.int .i64 c.src.n),.sc (.int .i64 c.src.fr),.sc (.int .i64 c.src.to),.sc (.int .i64 c.src.known),.sc (.int .i64 c.src.tab.den),.sl .lost c.src.tab.ps.length (rows El c.src.tab.ps),.sl .lost c.src.kids.length (Ba c.src.kids),.sc (.int .i64 c.src.att),.sl (.row 0 2) y1b.length (rows BV y1b)] (A5 rfl (A5 rfl (A5 rfl (A5 rfl (A5 rfl (A5 rfl (A5 rfl (A5 rfl (A5 (Am _ _ (CS.B9 c.src.tab.ps)) (A5 (Am _ _ (Al.B9 c.src.kids)) (A5 rfl (A5 (IQ rfl (AJ _ _ (AF.A2 y1b))) rfl))))))))))))] (Ab 300 (o1++[pn hb1,pn hb2])) (by kernel_rfl)
 refine Ae (fun hb3=>?_) fun hb3=>?_
 intro h
 have hE:=Option.some.inj h
 obtain ⟨hE0,hF0⟩:=Prod.mk.inj hE
 subst hE0 hF0
 exact D1 Hd.Aa _ _ [⟨.A9 [],.A9 [],(.plain rfl)⟩] [bu [.sc (.int .i64 c.src.kind),.sc (.string c.src.name),.sc (.string c.src.unit),.sc (.int .i64 c.src.n),.sc (.int .i64 c.src.fr),.sc (.int .i64 c.src.to),.sc (.int .i64 c.src.known),.sc (.int .i64 c.src.tab.den),.sl .lost c.src.tab.ps.length (rows El c.src.tab.ps),.sl .lost c.src.kids.length (Ba c.src.kids),.sc (.int .i64 c.src.att),.sl (.row 0 2) y1b.length (rows BV y1b)] (A5 rfl (A5 rfl (A5 rfl (A5 rfl (A5 rfl (A5 rfl (A5 rfl (A5 rfl (A5 (Am _ _ (CS.B9 c.src.tab.ps)) (A5 (Am _ _ (Al.B9 c.src.kids)) (A5 rfl (A5 (IQ rfl (AJ _ _ (AF.A2 y1b))) rfl))))))))))))] (Ab 300 (o1++[pn hb1,pn hb2,pn hb3])) (by kernel_rfl)
 refine Ah ?_
 rintro ⟨y2a,y2b⟩ hy2
 dsimp only
 intro h
 have hE:=Option.some.inj h
 obtain ⟨hE0,hF0⟩:=Prod.mk.inj hE
 subst hE0 hF0
 exact D1 Hd.Aa _ _ [⟨.A9 [],.A9 [],(.plain rfl)⟩] [bu [.sc (.int .i64 c.src.kind),.sc (.string c.src.name),.sc (.string c.src.unit),.sc (.int .i64 c.src.n),.sc (.int .i64 c.src.fr),.sc (.int .i64 c.src.to),.sc (.int .i64 c.src.known),.sc (.int .i64 c.src.tab.den),.sl .lost c.src.tab.ps.length (rows El c.src.tab.ps),.sl .lost c.src.kids.length (Ba c.src.kids),.sc (.int .i64 c.src.att),.sl (.row 0 2) y2b.length (rows BV y2b)] (A5 rfl (A5 rfl (A5 rfl (A5 rfl (A5 rfl (A5 rfl (A5 rfl (A5 rfl (A5 (Am _ _ (CS.B9 c.src.tab.ps)) (A5 (Am _ _ (Al.B9 c.src.kids)) (A5 rfl (A5 (IQ rfl (AJ _ _ (AF.A2 y2b))) rfl))))))))))))] (Ab 300 (o1++[pn hb1,pn hb2,pn hb3,Ay (Bd (A7 hy2) 0 0)])) (by kernel_rfl)
noncomputable def yG:Code:=A3 Tryz.f38
theorem b38:Tryz.f38.body=some yG:=by kernel_rfl
noncomputable def CK  (c:Cq) (n:Nd) (i0:Nat) (e0:Nd) (w0_11:(List Dg)):Option (Lp (List Dg) (List Dg) (Unit×(List Dg))):=(DA c.src e0.n).bind fun (y6a,y6b)=>cond (Bq e0.n n.n) ((AY (⟨c.src,w0_11⟩:Cq) 101 e0.att).bind fun (y7a,y7b)=>some (.nx y7b)) (cond y6b (some (.nx w0_11)) ((AY (⟨c.src,w0_11⟩:Cq) 91 e0.att).bind fun (y8a,y8b)=>some (.nx y8b)))
noncomputable def CV  (c:Cq) (n:Nd) (x:Nd):Option (Unit×(List Dg)):=cond (Bq x.kind 6) ((x.kids[0]?).bind fun x1=>(CN c x1 AO).bind fun (y2a,y2b)=>some ((),y2b)) (cond (Bq x.kind 8) ((DL c.src 3 n.name).bind fun (y3a,y3b)=>(x.kids[0]?).bind fun x4=>(CN c x4 y3a.unit).bind fun (y5a,y5b)=>some ((),y5b)) (cond (Bq x.kind 7) ((It x.kids.length (AL (fun i y x=>CK  c n i y x) (fun x=>x) (x.kids.drop 0) 0 c.diags)).bind (Ii (fun (w0_11_9:(List Dg))=>some ((),w0_11_9)) (fun v=>some v))) (some ((),c.diags))))
theorem J3 {c:Cq} {n:Nd} {x:Nd} {qc_diagsR:(List Dg)} (hS:Sound P G (.call 38 [.ptr 0 0,.agg (Bl n),.agg (Bl x)] ⟨[(0,.cells (GQ 0 c))],1,[(0,c.diags.length)],1⟩ (.ret (.A9 [])) ⟨[(0,.cells [.sc (.int .i64 c.src.kind),.sc (.string c.src.name),.sc (.string c.src.unit),.sc (.int .i64 c.src.n),.sc (.int .i64 c.src.fr),.sc (.int .i64 c.src.to),.sc (.int .i64 c.src.known),.sc (.int .i64 c.src.tab.den),.sl .lost c.src.tab.ps.length (rows El c.src.tab.ps),.sl .lost c.src.kids.length (Ba c.src.kids),.sc (.int .i64 c.src.att),.sl (.row 0 2) qc_diagsR.length (rows BV qc_diagsR)])],1,[(0,qc_diagsR.length)],1⟩)) (u0 v0:Nat) (hnb:[u0].Nodup:=by decide) (hnt:([v0]:List Nat).Nodup:=by decide):Cd.ok P G (.callU 38 [.ptr u0 0,.agg (Bl n),.agg (Bl x)] (.ret (.A9 [])) [(u0,.cells (GQ v0 c))] [(v0,c.diags.length)] [(u0,.cells [.sc (.int .i64 c.src.kind),.sc (.string c.src.name),.sc (.string c.src.unit),.sc (.int .i64 c.src.n),.sc (.int .i64 c.src.fr),.sc (.int .i64 c.src.to),.sc (.int .i64 c.src.known),.sc (.int .i64 c.src.tab.den),.sl .lost c.src.tab.ps.length (rows El c.src.tab.ps),.sl .lost c.src.kids.length (Ba c.src.kids),.sc (.int .i64 c.src.att),.sl (.row v0 2) qc_diagsR.length (rows BV qc_diagsR)])] [(v0,qc_diagsR.length)]) :=
 DE (M:=[.cells (GQ 0 c)]) (M2:=[.cells [.sc (.int .i64 c.src.kind),.sc (.string c.src.name),.sc (.string c.src.unit),.sc (.int .i64 c.src.n),.sc (.int .i64 c.src.fr),.sc (.int .i64 c.src.to),.sc (.int .i64 c.src.known),.sc (.int .i64 c.src.tab.den),.sl .lost c.src.tab.ps.length (rows El c.src.tab.ps),.sl .lost c.src.kids.length (Ba c.src.kids),.sc (.int .i64 c.src.att),.sl (.row 0 2) qc_diagsR.length (rows BV qc_diagsR)]]) (T:=[c.diags.length]) (T2:=[qc_diagsR.length]) (k:=1) (j:=1) Hd.Aa _ _ _ _ hS rfl rfl rfl rfl rfl hnb hnt rfl rfl (.cons (.cells (K6 c (by decide))) .nil) (.cons (.cells (.cons (.pl rfl) (.cons (.pl rfl) (.cons (.pl rfl) (.cons (.pl rfl) (.cons (.pl rfl) (.cons (.pl rfl) (.cons (.pl rfl) (.cons (.pl rfl) (.cons (.pl (CS.B9 c.src.tab.ps)) (.cons (.pl (Al.B9 c.src.kids)) (.cons (.pl rfl) (.cons (.row (by decide) (AF.A2 qc_diagsR)) .nil))))))))))))) .nil) (.cons (.ptr (by decide)) (.cons (.pl (Al.GB n)) (.cons (.pl (Al.GB x)) .nil))) (.pl rfl) (fun e he=>by simp only [List.mem_singleton] at he;subst he;exact (.arg (.here .ptr)))
theorem Jk   {c:Cq} {n:Nd} {x:Nd} {yR:Unit} {qc_diagsR:(List Dg)} (h:CV  c n x=some (yR,qc_diagsR)):Sound P G (.call 38 [.ptr 0 0,.agg (Bl n),.agg (Bl x)] ⟨[(0,.cells (GQ 0 c))],1,[(0,c.diags.length)],1⟩ (.ret (.A9 [])) ⟨[(0,.cells [.sc (.int .i64 c.src.kind),.sc (.string c.src.name),.sc (.string c.src.unit),.sc (.int .i64 c.src.n),.sc (.int .i64 c.src.fr),.sc (.int .i64 c.src.to),.sc (.int .i64 c.src.known),.sc (.int .i64 c.src.tab.den),.sl .lost c.src.tab.ps.length (rows El c.src.tab.ps),.sl .lost c.src.kids.length (Ba c.src.kids),.sc (.int .i64 c.src.att),.sl (.row 0 2) qc_diagsR.length (rows BV qc_diagsR)])],1,[(0,qc_diagsR.length)],1⟩):=by
 unfold CV at h
 refine DI Hd.mixed (AB Tryz.func38 b38 ?_)
 revert h
 refine Ae (fun hb1=>?_) fun hb1=>?_
 refine Ah fun x1 hx1=>?_
 refine Ah ?_
 rintro ⟨y2a,y2b⟩ hy2
 dsimp only
 intro h
 have hE:=Option.some.inj h
 obtain ⟨hE0,hF0⟩:=Prod.mk.inj hE
 subst hE0 hF0
 exact D1 Hd.Aa _ _ [⟨.A9 [],.A9 [],(.plain rfl)⟩] [bu [.sc (.int .i64 c.src.kind),.sc (.string c.src.name),.sc (.string c.src.unit),.sc (.int .i64 c.src.n),.sc (.int .i64 c.src.fr),.sc (.int .i64 c.src.to),.sc (.int .i64 c.src.known),.sc (.int .i64 c.src.tab.den),.sl .lost c.src.tab.ps.length (rows El c.src.tab.ps),.sl .lost c.src.kids.length (Ba c.src.kids),.sc (.int .i64 c.src.att),.sl (.row 0 2) y2b.length (rows BV y2b)] (A5 rfl (A5 rfl (A5 rfl (A5 rfl (A5 rfl (A5 rfl (A5 rfl (A5 rfl (A5 (Am _ _ (CS.B9 c.src.tab.ps)) (A5 (Am _ _ (Al.B9 c.src.kids)) (A5 rfl (A5 (IQ rfl (AJ _ _ (AF.A2 y2b))) rfl))))))))))))] (Ab 300 [pb hb1,Ct (BD .lost hx1),Ay (H8 (Gy hy2) 0 0)]) (by kernel_rfl)
 refine Ae (fun hb2=>?_) fun hb2=>?_
 refine Ah ?_
 rintro ⟨y3a,y3b⟩ hy3
 dsimp only
 refine Ah fun x4 hx4=>?_
 refine Ah ?_
 rintro ⟨y5a,y5b⟩ hy5
 dsimp only
 intro h
 have hE:=Option.some.inj h
 obtain ⟨hE0,hF0⟩:=Prod.mk.inj hE
 subst hE0 hF0
 exact D1 Hd.Aa _ _ [⟨.A9 [],.A9 [],(.plain rfl)⟩] [bu [.sc (.int .i64 c.src.kind),.sc (.string c.src.name),.sc (.string c.src.unit),.sc (.int .i64 c.src.n),.sc (.int .i64 c.src.fr),.sc (.int .i64 c.src.to),.sc (.int .i64 c.src.known),.sc (.int .i64 c.src.tab.den),.sl .lost c.src.tab.ps.length (rows El c.src.tab.ps),.sl .lost c.src.kids.length (Ba c.src.kids),.sc (.int .i64 c.src.att),.sl (.row 0 2) y5b.length (rows BV y5b)] (A5 rfl (A5 rfl (A5 rfl (A5 rfl (A5 rfl (A5 rfl (A5 rfl (A5 rfl (A5 (Am _ _ (CS.B9 c.src.tab.ps)) (A5 (Am _ _ (Al.B9 c.src.kids)) (A5 rfl (A5 (IQ rfl (AJ _ _ (AF.A2 y5b))) rfl))))))))))))] (Ab 300 [pb hb1,pb hb2,Ak (FT hy3),pz 7,Ct (BD .lost hx4),Ay (H8 (Gy hy5) 0 0)]) (by kernel_rfl)
 refine Ae (fun hb3=>?_) fun hb3=>?_
 refine Fb (fun Q v=>Je P G Tryz.f38 1 ⟨[(0,.cells (GQ 0 c))],1,[(0,c.diags.length)],1⟩ Q (.A9 []) ⟨[(0,.cells [.sc (.int .i64 c.src.kind),.sc (.string c.src.name),.sc (.string c.src.unit),.sc (.int .i64 c.src.n),.sc (.int .i64 c.src.fr),.sc (.int .i64 c.src.to),.sc (.int .i64 c.src.known),.sc (.int .i64 c.src.tab.den),.sl .lost c.src.tab.ps.length (rows El c.src.tab.ps),.sl .lost c.src.kids.length (Ba c.src.kids),.sc (.int .i64 c.src.att),.sl (.row 0 2) v.2.length (rows BV v.2)])],1,[(0,v.2.length)],1⟩) (fun i0 (w0_11:(List Dg)) (j0:List Value)=>fr 91 [(0,.ptr 0 0),(4,.ptr 1 0),(5,.ptr 2 0),(8,.sc (.int .i64 ((i0:Nat):Int)))] [7,10,13,14,21,22,32,41,42,47,63,72,81,82] j0) (fun (w0_11:(List Dg))=>⟨[(2,.cells (Bl x)),(1,.cells (Bl n)),(0,.cells [.sc (.int .i64 c.src.kind),.sc (.string c.src.name),.sc (.string c.src.unit),.sc (.int .i64 c.src.n),.sc (.int .i64 c.src.fr),.sc (.int .i64 c.src.to),.sc (.int .i64 c.src.known),.sc (.int .i64 c.src.tab.den),.sl .lost c.src.tab.ps.length (rows El c.src.tab.ps),.sl .lost c.src.kids.length (Ba c.src.kids),.sc (.int .i64 c.src.att),.sl (.row 0 2) w0_11.length (rows BV w0_11)])],3,[(0,w0_11.length)],1⟩) (fun (w0_11:(List Dg)) (jx:List Value)=>fr 91 [] [7,10,13,14,21,22,32,41,42,47,63,72,81,82] jx) (fun (w0_11:(List Dg))=>⟨[(2,.cells (Bl x)),(1,.cells (Bl n)),(0,.cells [.sc (.int .i64 c.src.kind),.sc (.string c.src.name),.sc (.string c.src.unit),.sc (.int .i64 c.src.n),.sc (.int .i64 c.src.fr),.sc (.int .i64 c.src.to),.sc (.int .i64 c.src.known),.sc (.int .i64 c.src.tab.den),.sl .lost c.src.tab.ps.length (rows El c.src.tab.ps),.sl .lost c.src.kids.length (Ba c.src.kids),.sc (.int .i64 c.src.att),.sl (.row 0 2) w0_11.length (rows BV w0_11)])],3,[(0,w0_11.length)],1⟩) [undef,undef,.bool false,.bool false,.bool false,.bool false,undef,.bool true,.bool true] (EO [] 1 (sb yG 7668) [.endb 0] (Ab 300 [pb hb1,pb hb2,pb hb3]) (by kernel_rfl)) ?_ ?_ ?_ (fun v h=>by cases h;exact .outer .body)
 rintro i0 w0_11 j0 hge hq
 exact CT (Ab 300 [pb (Kz hge)]) (by kernel_rfl) (hq (js 14 j0 [(9,.bool false)]))
 rintro i0 e0 w0_11 j0 r he0 hi0 mi0 k
 show CK  c n i0 e0 w0_11=some r→_
 unfold CK
 refine Ah ?_
 rintro ⟨y6a,y6b⟩ hy6
 dsimp only
 let o1:List (PC P G):=[pb (GD hi0),Ct (BD .lost he0),Ak (Gr hy6),Ct (BD .lost he0)]
 refine Ae (fun hb4=>?_) fun hb4=>?_
 refine Ah ?_
 rintro ⟨y7a,y7b⟩ hy7
 dsimp only
 rintro ⟨⟩
 exact BJ Hd.Aa [] [bp (Al.pl x),bp (Al.pl n),bu [.sc (.int .i64 c.src.kind),.sc (.string c.src.name),.sc (.string c.src.unit),.sc (.int .i64 c.src.n),.sc (.int .i64 c.src.fr),.sc (.int .i64 c.src.to),.sc (.int .i64 c.src.known),.sc (.int .i64 c.src.tab.den),.sl .lost c.src.tab.ps.length (rows El c.src.tab.ps),.sl .lost c.src.kids.length (Ba c.src.kids),.sc (.int .i64 c.src.att),.sl (.row 0 2) y7b.length (rows BV y7b)] (A5 rfl (A5 rfl (A5 rfl (A5 rfl (A5 rfl (A5 rfl (A5 rfl (A5 rfl (A5 (Am _ _ (CS.B9 c.src.tab.ps)) (A5 (Am _ _ (Al.B9 c.src.kids)) (A5 rfl (A5 (IQ rfl (AJ _ _ (AF.A2 y7b))) rfl))))))))))))] (Ab 300 (o1++[pb hb4,Ct (BD .lost he0),Ay (Bd (A7 hy7) 0 0),pi mi0])) (by kernel_rfl) (k (js 14 j0 [(1,.bool y6b),(9,.bool true),(10,.bool y6b),(11,.bool true)]))
 refine Ae (fun hv=>?_) fun hv=>?_
 subst hv
 rintro ⟨⟩
 exact BJ Hd.Aa [] [bp (Al.pl x),bp (Al.pl n),bu [.sc (.int .i64 c.src.kind),.sc (.string c.src.name),.sc (.string c.src.unit),.sc (.int .i64 c.src.n),.sc (.int .i64 c.src.fr),.sc (.int .i64 c.src.to),.sc (.int .i64 c.src.known),.sc (.int .i64 c.src.tab.den),.sl .lost c.src.tab.ps.length (rows El c.src.tab.ps),.sl .lost c.src.kids.length (Ba c.src.kids),.sc (.int .i64 c.src.att),.sl (.row 0 2) w0_11.length (rows BV w0_11)] (A5 rfl (A5 rfl (A5 rfl (A5 rfl (A5 rfl (A5 rfl (A5 rfl (A5 rfl (A5 (Am _ _ (CS.B9 c.src.tab.ps)) (A5 (Am _ _ (Al.B9 c.src.kids)) (A5 rfl (A5 (IQ rfl (AJ _ _ (AF.A2 w0_11))) rfl))))))))))))] (Ab 300 (o1++[pb hb4,pi mi0])) (by kernel_rfl) (k (js 14 j0 [(1,.bool true),(9,.bool true),(10,.bool true),(11,.bool false),(12,.bool true),(13,.bool false)]))
 subst hv
 refine Ah ?_
 rintro ⟨y8a,y8b⟩ hy8
 dsimp only
 rintro ⟨⟩
 exact BJ Hd.Aa [] [bp (Al.pl x),bp (Al.pl n),bu [.sc (.int .i64 c.src.kind),.sc (.string c.src.name),.sc (.string c.src.unit),.sc (.int .i64 c.src.n),.sc (.int .i64 c.src.fr),.sc (.int .i64 c.src.to),.sc (.int .i64 c.src.known),.sc (.int .i64 c.src.tab.den),.sl .lost c.src.tab.ps.length (rows El c.src.tab.ps),.sl .lost c.src.kids.length (Ba c.src.kids),.sc (.int .i64 c.src.att),.sl (.row 0 2) y8b.length (rows BV y8b)] (A5 rfl (A5 rfl (A5 rfl (A5 rfl (A5 rfl (A5 rfl (A5 rfl (A5 rfl (A5 (Am _ _ (CS.B9 c.src.tab.ps)) (A5 (Am _ _ (Al.B9 c.src.kids)) (A5 rfl (A5 (IQ rfl (AJ _ _ (AF.A2 y8b))) rfl))))))))))))] (Ab 300 (o1++[pb hb4,Ct (BD .lost he0),Ay (Bd (A7 hy8) 0 0),pi mi0])) (by kernel_rfl) (k (js 14 j0 [(1,.bool false),(9,.bool true),(10,.bool false),(11,.bool false),(12,.bool false),(13,.bool true)]))
 rintro w0_11_9 jx_9
 intro h
 have hE:=Option.some.inj h
 obtain ⟨hE0,hF0⟩:=Prod.mk.inj hE
 subst hE0 hF0
 exact D1 Hd.Aa _ _ [⟨.A9 [],.A9 [],(.plain rfl)⟩] [bu [.sc (.int .i64 c.src.kind),.sc (.string c.src.name),.sc (.string c.src.unit),.sc (.int .i64 c.src.n),.sc (.int .i64 c.src.fr),.sc (.int .i64 c.src.to),.sc (.int .i64 c.src.known),.sc (.int .i64 c.src.tab.den),.sl .lost c.src.tab.ps.length (rows El c.src.tab.ps),.sl .lost c.src.kids.length (Ba c.src.kids),.sc (.int .i64 c.src.att),.sl (.row 0 2) w0_11_9.length (rows BV w0_11_9)] (A5 rfl (A5 rfl (A5 rfl (A5 rfl (A5 rfl (A5 rfl (A5 rfl (A5 rfl (A5 (Am _ _ (CS.B9 c.src.tab.ps)) (A5 (Am _ _ (Al.B9 c.src.kids)) (A5 rfl (A5 (IQ rfl (AJ _ _ (AF.A2 w0_11_9))) rfl))))))))))))] (Cc 300 []) (by kernel_rfl)
 intro h
 have hE:=Option.some.inj h
 obtain ⟨hE0,hF0⟩:=Prod.mk.inj hE
 subst hE0 hF0
 exact D1 Hd.Aa _ _ [⟨.A9 [],.A9 [],(.plain rfl)⟩] [bu (GQ 0 c) (F5 rfl)] (Ab 300 [pb hb1,pb hb2,pb hb3]) (by kernel_rfl)
noncomputable def kB:Code:=A3 Tryz.f17
theorem b17:Tryz.f17.body=some kB:=by kernel_rfl
noncomputable def Ew  (source:Nd) (i0:Nat) (e0:Nd) (facts4:Int) (lines5:Int) (w1_11:(List Dg)):Option (Lp (Int×Int×(List Dg)) (List Dg) (List Dg)):=cond (Bq e0.kind 2) ((BF (⟨source,w1_11⟩:Cq) ((i0:Nat):Int) facts4).bind fun (y2a,y2b)=>some (.nx ((BH facts4 1),lines5,y2b))) (cond (Bq e0.kind 3) ((BF (⟨source,w1_11⟩:Cq) ((i0:Nat):Int) lines5).bind fun (y3a,y3b)=>some (.nx (facts4,(BH lines5 1),y3b))) (some (.nx (facts4,lines5,w1_11))))
noncomputable def FI  (source:Nd) (e1:Nd) (i2:Nat) (e2:Nd) (w1_11:(List Dg)):Option (Lp (List Dg) (List Dg) (List Dg)):=(CV (⟨source,w1_11⟩:Cq) e1 e2).bind fun (y6a,y6b)=>some (.nx y6b)
noncomputable def DU  (source:Nd) (i1:Nat) (e1:Nd) (many7:Int) (w1_11:(List Dg)):Option (Lp (Int×(List Dg)) (List Dg) (List Dg)):=cond (Bq e1.kind 4) ((Dj (⟨source,w1_11⟩:Cq) e1 many7).bind fun (y5a,y5b)=>(It e1.kids.length (AL (fun i y x=>FI  source e1 i y x) (fun x=>x) (e1.kids.drop 1) 1 y5b)).bind (Ii (fun (w1_11_7:(List Dg))=>some (.nx ((BH many7 1),w1_11_7))) (fun v=>some (.rt v)))) (some (.nx (many7,w1_11)))
noncomputable def Gi  (source:Nd):Option (List Dg):=(Ey source).bind fun y1=>cond y1 ((It source.kids.length (AL (fun i y x=>Ew  source i y x.1 x.2.1 x.2.2) (fun x=>x.2.2) (source.kids.drop 0) 0 (0,0,[]))).bind (Ii (fun (w1_11_4:(List Dg))=>(It source.kids.length (AL (fun i y x=>DU  source i y x.1 x.2) (fun x=>x.2) (source.kids.drop 0) 0 (0,w1_11_4))).bind (Ii (fun (w1_11_8:(List Dg))=>some w1_11_8) (fun v=>some v))) (fun v=>some v))) (some [(⟨1,0⟩:Dg)])
theorem NG   {source:Nd} {yR:(List Dg)} (h:Gi  source=some yR):Pure P G 17 [.agg (Bl source)] (.sl .lost yR.length (rows BV yR)):=by
 unfold Gi at h
 refine BB Hd.mixed Hd.Aa (AB Tryz.func17 b17 ?_) (A2 (Al.GB source) rfl) (AF.B9 yR)
 revert h
 refine Ah fun y1 hy1=>?_
 refine Ae (fun hv=>?_) fun hv=>?_
 subst hv
 refine Fb (fun Q v=>Fq P Tryz.f17 0 Q (.sl .lost v.length (rows BV v))) (fun i0 ((facts4,lines5,w1_11):(Int×Int×(List Dg))) (j0:List Value)=>fr 88 [(1,.ptr 0 0),(3,.ptr 1 0),(4,.sc (.int .i64 facts4)),(5,.sc (.int .i64 lines5)),(6,.sc (.int .i64 ((i0:Nat):Int)))] [12,13,23,32,33,40,41,52,62,73] j0) (fun ((facts4,lines5,w1_11):(Int×Int×(List Dg)))=>⟨[(1,.cells [.sc (.int .i64 source.kind),.sc (.string source.name),.sc (.string source.unit),.sc (.int .i64 source.n),.sc (.int .i64 source.fr),.sc (.int .i64 source.to),.sc (.int .i64 source.known),.sc (.int .i64 source.tab.den),.sl .lost source.tab.ps.length (rows El source.tab.ps),.sl .lost source.kids.length (Ba source.kids),.sc (.int .i64 source.att),.sl (.row 0 2) w1_11.length (rows BV w1_11)]),(0,.cells (Bl source))],2,[(0,w1_11.length)],1⟩) (fun (w1_11:(List Dg)) (jx:List Value)=>fr 88 [(1,.ptr 0 0),(3,.ptr 1 0)] [12,13,23,32,33,40,41,52,62,73] jx) (fun (w1_11:(List Dg))=>⟨[(1,.cells [.sc (.int .i64 source.kind),.sc (.string source.name),.sc (.string source.unit),.sc (.int .i64 source.n),.sc (.int .i64 source.fr),.sc (.int .i64 source.to),.sc (.int .i64 source.known),.sc (.int .i64 source.tab.den),.sl .lost source.tab.ps.length (rows El source.tab.ps),.sl .lost source.kids.length (Ba source.kids),.sc (.int .i64 source.att),.sl (.row 0 2) w1_11.length (rows BV w1_11)]),(0,.cells (Bl source))],2,[(0,w1_11.length)],1⟩) [.bool true,.bool false] (EO [.b 1 11 2] 0 (sb kB 1012) [.code (sb kB 127)] (Ab 300 [Ak (D7 hy1)]) (by kernel_rfl)) ?_ ?_ ?_ (fun v h=>by cases h;exact .outer .body)
 rintro i0 ⟨facts4,lines5,w1_11⟩ j0 hge hq
 exact CT (Ab 300 [pb (Kz hge)]) (by kernel_rfl) (hq (js 10 j0 [(2,.bool false)]))
 rintro i0 e0 ⟨facts4,lines5,w1_11⟩ j0 r he0 hi0 mi0 k
 show Ew  source i0 e0 facts4 lines5 w1_11=some r→_
 unfold Ew
 refine Ae (fun hb2=>?_) fun hb2=>?_
 refine Ah ?_
 rintro ⟨y2a,y2b⟩ hy2
 dsimp only
 rintro ⟨⟩
 exact D6 (Ab 300 [pb (GD hi0),Ct (BD .lost he0),pb hb2,Ay (Fh (EE hy2) 1 0),pk,pi mi0]) (by kernel_rfl) (k (js 10 j0 [(2,.bool true),(3,.bool true),(4,.bool true)]))
 refine Ae (fun hb3=>?_) fun hb3=>?_
 refine Ah ?_
 rintro ⟨y3a,y3b⟩ hy3
 dsimp only
 rintro ⟨⟩
 exact D6 (Ab 300 [pb (GD hi0),Ct (BD .lost he0),pb hb2,pb hb3,Ay (Fh (EE hy3) 1 0),pk,pi mi0]) (by kernel_rfl) (k (js 10 j0 [(2,.bool true),(3,.bool false),(4,.bool false),(5,.bool true),(6,.bool true)]))
 rintro ⟨⟩
 exact D6 (Ab 300 [pb (GD hi0),Ct (BD .lost he0),pb hb2,pb hb3,pi mi0]) (by kernel_rfl) (k (js 10 j0 [(2,.bool true),(3,.bool false),(4,.bool false),(5,.bool false),(6,.bool false)]))
 rintro w1_11_4 jx_4
 refine Fb (fun Q v=>Fq P Tryz.f17 0 Q (.sl .lost v.length (rows BV v))) (fun i1 ((many7,w1_11):(Int×(List Dg))) (j1:List Value)=>fr 88 [(1,.ptr 0 0),(3,.ptr 1 0),(7,.sc (.int .i64 many7)),(8,.sc (.int .i64 ((i1:Nat):Int)))] [12,13,23,32,33,40,41,52,62,73] j1) (fun ((many7,w1_11):(Int×(List Dg)))=>⟨[(1,.cells [.sc (.int .i64 source.kind),.sc (.string source.name),.sc (.string source.unit),.sc (.int .i64 source.n),.sc (.int .i64 source.fr),.sc (.int .i64 source.to),.sc (.int .i64 source.known),.sc (.int .i64 source.tab.den),.sl .lost source.tab.ps.length (rows El source.tab.ps),.sl .lost source.kids.length (Ba source.kids),.sc (.int .i64 source.att),.sl (.row 0 2) w1_11.length (rows BV w1_11)]),(0,.cells (Bl source))],2,[(0,w1_11.length)],1⟩) (fun (w1_11:(List Dg)) (jx:List Value)=>fr 88 [(3,.ptr 1 0)] [12,13,23,32,33,40,41,52,62,73] jx) (fun (w1_11:(List Dg))=>⟨[(1,.cells [.sc (.int .i64 source.kind),.sc (.string source.name),.sc (.string source.unit),.sc (.int .i64 source.n),.sc (.int .i64 source.fr),.sc (.int .i64 source.to),.sc (.int .i64 source.known),.sc (.int .i64 source.tab.den),.sl .lost source.tab.ps.length (rows El source.tab.ps),.sl .lost source.kids.length (Ba source.kids),.sc (.int .i64 source.att),.sl (.row 0 2) w1_11.length (rows BV w1_11)]),(0,.cells (Bl source))],2,[(0,w1_11.length)],1⟩) jx_4 (EO [] 3 (sb kB 4084) [.code (sb kB 511)] (Cc 300 []) (by kernel_rfl)) ?_ ?_ ?_ (fun v h=>by cases h;exact .outer .body)
 rintro i1 ⟨many7,w1_11⟩ j1 hge hq
 exact CT (Ab 300 [pb (Kz hge)]) (by kernel_rfl) (hq (js 10 j1 [(7,.bool false)]))
 rintro i1 e1 ⟨many7,w1_11⟩ j1 r he1 hi1 mi1 k
 show DU  source i1 e1 many7 w1_11=some r→_
 unfold DU
 refine Ae (fun hb4=>?_) fun hb4=>?_
 refine Ah ?_
 rintro ⟨y5a,y5b⟩ hy5
 dsimp only
 refine Fb (fun Q v=>Fq P Tryz.f17 0 Q (.sl .lost v.length (rows BV v))) (fun i2 (w1_11:(List Dg)) (j2:List Value)=>fr 88 [(1,.ptr 0 0),(3,.ptr 1 0),(7,.sc (.int .i64 (BH many7 1))),(8,.sc (.int .i64 ((i1:Nat):Int))),(9,.ptr 2 0),(10,.sc (.int .i64 ((i2:Nat):Int)))] [12,13,23,32,33,40,41,52,62,73] j2) (fun (w1_11:(List Dg))=>⟨[(2,.cells (Bl e1)),(1,.cells [.sc (.int .i64 source.kind),.sc (.string source.name),.sc (.string source.unit),.sc (.int .i64 source.n),.sc (.int .i64 source.fr),.sc (.int .i64 source.to),.sc (.int .i64 source.known),.sc (.int .i64 source.tab.den),.sl .lost source.tab.ps.length (rows El source.tab.ps),.sl .lost source.kids.length (Ba source.kids),.sc (.int .i64 source.att),.sl (.row 0 2) w1_11.length (rows BV w1_11)]),(0,.cells (Bl source))],3,[(0,w1_11.length)],1⟩) (fun (w1_11:(List Dg)) (jx:List Value)=>fr 88 [(1,.ptr 0 0),(3,.ptr 1 0),(7,.sc (.int .i64 (BH many7 1))),(8,.sc (.int .i64 ((i1:Nat):Int)))] [12,13,23,32,33,40,41,52,62,73] jx) (fun (w1_11:(List Dg))=>⟨[(2,.cells (Bl e1)),(1,.cells [.sc (.int .i64 source.kind),.sc (.string source.name),.sc (.string source.unit),.sc (.int .i64 source.n),.sc (.int .i64 source.fr),.sc (.int .i64 source.to),.sc (.int .i64 source.known),.sc (.int .i64 source.tab.den),.sl .lost source.tab.ps.length (rows El source.tab.ps),.sl .lost source.kids.length (Ba source.kids),.sc (.int .i64 source.att),.sl (.row 0 2) w1_11.length (rows BV w1_11)]),(0,.cells (Bl source))],3,[(0,w1_11.length)],1⟩) (js 10 j1 [(7,.bool true),(8,.bool false)]) (EO [] 5 (sb kB 4182652) [.endb 4,.code (sb kB 16339)] (Ab 300 [pb (GD hi1),Ct (BD .lost he1),pn hb4,Ay (K9 (JV hy5) 1 0),pk]) (by kernel_rfl)) ?_ ?_ ?_ (fun v h=>by cases h;exact .outer (.GS k))
 rintro i2 w1_11 j2 hge hq
 exact CT (Ab 300 [pb (Kz hge)]) (by kernel_rfl) (hq (js 10 j2 [(9,.bool false)]))
 rintro i2 e2 w1_11 j2 r he2 hi2 mi2 k
 show FI  source e1 i2 e2 w1_11=some r→_
 unfold FI
 refine Ah ?_
 rintro ⟨y6a,y6b⟩ hy6
 dsimp only
 rintro ⟨⟩
 exact D6 (Ab 300 [pb (GD hi2),pz 7,Ct (BD .lost he2),Ay (J3 (Jk hy6) 1 0),pi mi2]) (by kernel_rfl) (k (js 10 j2 [(9,.bool true)]))
 rintro w1_11_7 jx_7
 rintro ⟨⟩
 exact BJ Hd.Aa [] [bu [.sc (.int .i64 source.kind),.sc (.string source.name),.sc (.string source.unit),.sc (.int .i64 source.n),.sc (.int .i64 source.fr),.sc (.int .i64 source.to),.sc (.int .i64 source.known),.sc (.int .i64 source.tab.den),.sl .lost source.tab.ps.length (rows El source.tab.ps),.sl .lost source.kids.length (Ba source.kids),.sc (.int .i64 source.att),.sl (.row 0 2) w1_11_7.length (rows BV w1_11_7)] (A5 rfl (A5 rfl (A5 rfl (A5 rfl (A5 rfl (A5 rfl (A5 rfl (A5 rfl (A5 (Am _ _ (CS.B9 source.tab.ps)) (A5 (Am _ _ (Al.B9 source.kids)) (A5 rfl (A5 (IQ rfl (AJ _ _ (AF.A2 w1_11_7))) rfl)))))))))))),bp (Al.pl source)] (Cc 300 [pi mi1]) (by kernel_rfl) (k jx_7)
 rintro ⟨⟩
 exact BJ Hd.Aa [] [bu [.sc (.int .i64 source.kind),.sc (.string source.name),.sc (.string source.unit),.sc (.int .i64 source.n),.sc (.int .i64 source.fr),.sc (.int .i64 source.to),.sc (.int .i64 source.known),.sc (.int .i64 source.tab.den),.sl .lost source.tab.ps.length (rows El source.tab.ps),.sl .lost source.kids.length (Ba source.kids),.sc (.int .i64 source.att),.sl (.row 0 2) w1_11.length (rows BV w1_11)] (A5 rfl (A5 rfl (A5 rfl (A5 rfl (A5 rfl (A5 rfl (A5 rfl (A5 rfl (A5 (Am _ _ (CS.B9 source.tab.ps)) (A5 (Am _ _ (Al.B9 source.kids)) (A5 rfl (A5 (IQ rfl (AJ _ _ (AF.A2 w1_11))) rfl)))))))))))),bp (Al.pl source)] (Ab 300 [pb (GD hi1),Ct (BD .lost he1),pn hb4,pi mi1]) (by kernel_rfl) (k (js 10 j1 [(7,.bool true),(8,.bool true)]))
 rintro w1_11_8 jx_8
 intro h
 have hE:=Option.some.inj h
 subst hE
 exact AG (v:=.sl (.row 0 2) w1_11_8.length (rows BV w1_11_8)) _ _ (Cc 300 []) (by kernel_rfl) .body (.wn (.s rfl .nil) (AF.B9 w1_11_8))
 subst hv
 intro h
 have hE:=Option.some.inj h
 subst hE
 exact AG (v:=.sl .full 1 [.sc (.int .i64 1),.sc (.int .i64 0)]) _ _ (Ab 300 [Ak (D7 hy1)]) (by kernel_rfl) .body (.wn (.d (.r (.r .nil)) (AF.eq [(⟨1,0⟩:Dg)]).symm .nil) (AF.B9 [(⟨1,0⟩:Dg)]))
end Mo
end Go.Proofs.YtkfplcngmiljaaaGreatDoor

namespace Go.Proofs.YtkfplcngmiljaaaGreatDoor
open AI Go
namespace Mo
set_option maxRecDepth 100000
set_option maxHeartbeats 4000000
def UA (s:ByteArray):Prop:=s.data.toList.length=3∧∀ c∈s.data.toList,65≤c.toNat∧c.toNat≤90
def Iy (s:ByteArray):Prop:=s=AO∨s=Bj∨s=B2∨UA s
def TJ (c:UInt8):Prop:=(97≤c.toNat∧c.toNat≤122)∨(48≤c.toNat∧c.toNat≤57)∨c.toNat=95
def V7:List ByteArray:=[RC,QG,JY,Xg,Rf,RB,pT,NP,Rm,Ly,Li,AO,Bj,B2,Wh,Ro,Lj,Nv,Q2,SO,Iq,Xa,Tu,QT,NA,Wt,EX,Ox,Ip,Ky,Hm,Er,NS]
def Hb (s:ByteArray):Prop:=(1≤s.data.toList.length∧s.data.toList.length≤16)∧(∃ b,s.data.toList[0]?=some b∧97≤b.toNat∧b.toNat≤122)∧s∉V7∧∀ c∈s.data.toList,TJ c
theorem Fa {n:Nd} (h:DC n):n.tab.ps.length≤9223372036854775807∧n.kids.length≤9223372036854775807∧∀ k∈n.kids,DC k:=by
 obtain ⟨a,b,c⟩:=(TH n).1 h
 exact ⟨a.1,b,c⟩
theorem Mb {α:Type} {l:List α} {P:α→Prop}:(∀ (i:Nat) (y:α),l[i]?=some y→P y)↔∀ y∈l,P y :=
 ⟨fun h y hy=>(List.getElem?_of_mem hy).elim fun i hi=>h i y hi,fun h i y hi=>h y (List.mem_of_getElem? hi)⟩
theorem sJ (s:ByteArray):Fl s=some (mb (s∈V7)):=by
 rw [Fl]
 simp only [B8,Bo,GF,fN]
 refine Ke ?_
 simp only [V7,List.mem_cons,List.not_mem_nil,or_false]
theorem iB (s:ByteArray):s=ByteArray.empty↔s.data.toList.length=0:=by
 constructor
 · intro h;rw [h];rfl
 · intro h
   apply ByteArray.ext
   apply Array.ext'
   rw [List.eq_nil_of_length_eq_zero h];rfl
theorem Vy (s:ByteArray):Cu s=some (mb (Hb s)):=by
 rw [Cu]
 simp only [B8,EH,Bo,sJ,Option.bind_some]
 unfold Hb
 by_cases h0:s=ByteArray.empty
 · rw [Ag h0];exact H9 fun h=>by have:=(iB s).1 h0;omega
 have h1:s.data.toList.length≠0:=fun h=>h0 ((iB s).2 h)
 rw [Ad h0]
 by_cases h2:16 < ((s.data.toList.length:Nat):Int)
 · rw [Ag h2];exact H9 fun h=>by omega
 rw [Ad h2]
 obtain ⟨b,hb⟩:∃ b,s.data.toList[0]?=some b:=⟨_,List.getElem?_eq_getElem (by omega)⟩
 rw [hb,Io (v:=false) (P:=fun _ y=>TJ y) (by omega) (fun i y _=>by
   simp only [EN,EH,Bu,Bo,SD,X1,WA,mG,WO,wS,sC]
   congr 2
   unfold TJ
   apply propext
   omega)]
 simp only [Option.bind_some,GF,ZK,Mb]
 refine Ke ?_
 constructor
 · rintro ⟨h3,h4,h5,h6⟩
   exact ⟨by omega,⟨b,rfl,by omega⟩,h5,h6⟩
 · rintro ⟨h3,⟨c,hc,h4⟩,h5,h6⟩
   cases hc
   exact ⟨by omega,by omega,h5,h6⟩
theorem mH (s:ByteArray):Ev s=some (mb (UA s)):=by
 rw [Ev,Bu,Bo]
 unfold UA
 by_cases h:((s.data.toList.length:Nat):Int)=3
 · rw [Ag h,Io (v:=false) (P:=fun _ y=>65≤y.toNat∧y.toNat≤90) (by omega) (fun i y _=>by
     simp only [Fi,EH,Bo,WA,WO]
     congr 2;apply propext;omega),GF,Mb]
   exact Ke ⟨fun h2=>⟨by omega,h2⟩,fun h2=>h2.2⟩
 · rw [Ad h];exact H9 fun h2=>h (by omega)
theorem VC (s:ByteArray):CW s=some (mb (Iy s)):=by
 rw [CW]
 simp only [B8,Bo,mH,Option.bind_some,fN]
 rfl
def E8 (n:Int):Prop:=1≤n∧n≤1000000
theorem MZ (n:Int):Ci n=some (mb (E8 n)):=by
 rw [Ci]
 simp only [F6,Bo,GF,EC]
 rfl
def WK (n:Int):Prop:=0≤n∧n≤36524
def OZ (s:ByteArray):Prop:=s=EX∨s=Ox∨s=Ip∨s=Ky
theorem Y8 (s:ByteArray):DD s=some (mb (OZ s)):=by
 rw [DD]
 simp only [B8,Bo,GF,fN]
 rfl
theorem Zk (a b:List Pc) (ha:a.length≤9223372036854775807):G6 a b=some (mb (a=b)):=by
 rw [G6,Bu,Bo]
 by_cases h:((a.length:Nat):Int)=((b.length:Nat):Int)
 · rw [Ag h,Io (v:=false) (P:=fun i y=>b[i]?=some y) ha (fun i y hy=>by
     have hi:i < a.length:=(List.getElem?_eq_some_iff.1 hy).1
     have hb:b[i]?=some b[i]:=List.getElem?_eq_getElem (by omega)
     simp only [Hv]
     rw [hb]
     simp only [Option.bind_some]
     have hs:NF y b[i]=mb (b[i]?=some y):=by
       rw [Bool.eq_iff_iff,Bk,hb]
       unfold NF
       simp only [Bool.and_eq_true,J2,beq_iff_eq,Option.some.injEq]
       generalize b[i]=z
       cases y;cases z
       simp only [Pc.mk.injEq]
       grind
     rw [hs,Bo,SD,hb]),GF]
   refine Ke ⟨fun h2=>?_,fun h2 i y hy=>by rw [← h2];exact hy⟩
   apply List.ext_getElem?
   intro i
   by_cases hi:i < a.length
   · rw [List.getElem?_eq_getElem hi,h2 i _ (List.getElem?_eq_getElem hi)]
   · rw [List.getElem?_eq_none (by omega),List.getElem?_eq_none (by omega)]
 · rw [Ad h];exact H9 fun h2=>h (by rw [h2])
def Dm (n f:Nd):Prop:=n.name=f.name∧n.unit=f.unit∧n.n=f.n∧n.fr=f.fr∧n.to=f.to∧n.known=f.known∧n.tab.den=f.tab.den∧n.tab.ps=f.tab.ps
theorem Pr (n f:Nd) (h:n.tab.ps.length≤9223372036854775807):Bf n f=some (mb (Dm n f)):=by
 rw [Bf,Zk _ _ h]
 simp only [B8,Bu,Bo,Option.bind_some,EC]
 rfl
end Mo
end Go.Proofs.YtkfplcngmiljaaaGreatDoor
namespace Go.Proofs.YtkfplcngmiljaaaGreatDoor
open AI Go
namespace Mo
set_option maxRecDepth 100000
set_option maxHeartbeats 4000000
theorem SK {p:Prop} (h:¬ p):mb p=false:=by rw [N2];exact h
def Out (r:Option (Bool×Int)) (P:Prop) (t:Int):Prop:=∃ z,r=some (mb P,z)∧(P→z=t)
theorem Out.congr {r:Option (Bool×Int)} {P Q:Prop} {t u:Int} (h:Out r P t) (hp:P↔Q) (ht:Q→t=u):Out r Q u:=by
 obtain ⟨z,h1,h2⟩:=h
 exact ⟨z,by rw [h1,FC hp],fun q=>(h2 (hp.2 q)).trans (ht q)⟩
theorem F9 {Q:Prop} {z u:Int} (h:¬ Q):Out (some (false,z)) Q u:=⟨z,by rw [SK h],fun q=>absurd q h⟩
theorem ME {P Q:Prop} {u:Int} (h:P↔Q):Out (some (mb P,u)) Q u:=⟨u,by rw [FC h],fun _=>rfl⟩
theorem Eo {p Q:Prop} {A:Option (Bool×Int)} {z u:Int} (h:p→Out A Q u) (hq:Q→p):Out (AQ p A (some (false,z))) Q u:=by
 by_cases hp:p
 · rw [Ag hp];exact h hp
 · rw [Ad hp];exact F9 fun q=>hp (hq q)
theorem TF {p Q:Prop} {A:Option (Bool×Int)} {z u:Int} (h:¬ p→Out A Q u) (hq:Q→¬ p):Out (AQ p (some (false,z)) A) Q u:=by
 by_cases hp:p
 · rw [Ag hp];exact F9 fun q=>hq q hp
 · rw [Ad hp];exact h hp
mutual
def Ef:Nd→Nat
 | ⟨_,_,_,_,_,_,_,_,kids,_⟩=>1+Iv kids
def Iv:List Nd→Nat
 | []=>0
 | k::ks=>Ef k+Iv ks
end
mutual
def Lv:Nd→Nat
 | ⟨_,_,_,_,_,_,_,_,kids,_⟩=>1+ZD kids
def ZD:List Nd→Nat
 | []=>0
 | k::ks=>max (Lv k) (ZD ks)
end
theorem Dz (n:Nd):Ef n=1+Iv n.kids:=by cases n;rw [Ef]
theorem K4 (n:Nd):Lv n=1+ZD n.kids:=by cases n;rw [Lv]
theorem PV {l:List Nd} {m:Nat}:ZD l≤m↔∀ k∈l,Lv k≤m:=by
 induction l with
 | nil=>simp [ZD]
 | cons a l ih=>simp only [ZD,Nat.max_le,ih,List.mem_cons,forall_eq_or_imp]
theorem FK {l:List Nd} {k:Nd} (h:k∈l):Ef k≤Iv l:=by
 induction l with
 | nil=>cases h
 | cons a l ih =>
   rw [Iv]
   rcases List.mem_cons.1 h with rfl | h
   · omega
   · have:=ih h;omega
theorem J7 (l:List Nd):l.length≤Iv l:=by
 induction l with
 | nil=>simp [Iv]
 | cons a l ih=>rw [Iv,Dz];simp only [List.length_cons];omega
theorem M9 {n k:Nd} (h:k∈n.kids):Ef k < Ef n:=by rw [Dz n];have:=FK h;omega
theorem KR {g:Ck→Nd→Int→Option (Bool×Int)} {p:Nd→Prop} {d:Int}:∀ {l:List Nd} {i:Nat} {c:Int},0≤c→c≤2000→(∀ k∈l,∀ c:Int,0≤c→c≤2000→Out (g ⟨c⟩ k d) (p k∧c+Ef k≤2000∧d+Lv k≤41) (c+Ef k)) →
   Out ((AL (δ:=Int) (ρ:=Bool×Int) (fun _ y (x:Int)=>(g ⟨x⟩ y d).bind fun (y1a,y1b)=>cond y1a (some (.nx y1b)) (some (.rt (false,y1b)))) (fun x=>x) l i c).bind (Ii (fun (w:Int)=>some (true,w)) (fun v=>some v)))
     ((∀ k∈l,p k∧d+Lv k≤41)∧c+Iv l≤2000) (c+Iv l)
 | [],i,c,h0,h1,_=>⟨c,by rw [Bk.2 ⟨fun k hk=>(by cases hk),by simp only [Iv];omega⟩];rfl,fun _=>by simp [Iv]⟩
 | y::l,i,c,h0,h1,hg=>by
   obtain ⟨z,hz,h2⟩:=hg y (by simp) c h0 h1
   rw [AL,hz]
   simp only [Option.bind_some]
   by_cases hp:p y∧c+Ef y≤2000∧d+Lv y≤41
   · rw [Bk.2 hp,h2 hp]
     show Out ((AL _ _ l (i+1) (c+Ef y)).bind _) _ _
     refine (KR (l:=l) (i:=i+1) (c:=c+Ef y) (by omega) hp.2.1 fun k hk=>hg k (by simp [hk])).congr ?_ ?_
     · rw [Iv]
       simp only [List.mem_cons,forall_eq_or_imp,Int.natCast_add]
       constructor
       · rintro ⟨a,b⟩;exact ⟨⟨⟨hp.1,hp.2.2⟩,a⟩,by omega⟩
       · rintro ⟨⟨_,a⟩,b⟩;exact ⟨a,by omega⟩
     · intro _;rw [Iv];omega
   · rw [SK hp]
     refine ⟨z,?_,fun q=>?_⟩
     · show some (false,z)=_
       rw [SK]
       rintro ⟨a,b⟩
       rw [Iv] at b
       have:=a y (by simp)
       exact hp ⟨this.1,by omega,this.2⟩
     · exfalso
       obtain ⟨a,b⟩:=q
       rw [Iv] at b
       have:=a y (by simp)
       exact hp ⟨this.1,by omega,this.2⟩
theorem PX (n:Nd) {c d:Int} (h0:0≤c) (h1:c≤2000):Out (Br ⟨c⟩ n d) (c+1≤2000∧d≤40) (c+1):=by
 rw [Br,CI (by show _≤c+1∧c+1≤_;omega)]
 simp only [F6,Bo,Option.bind_some]
 by_cases h:c+1≤2000
 · rw [Ag h];exact ME ⟨fun a=>⟨h,a⟩,fun a=>a.2⟩
 · rw [Ad h];exact F9 fun a=>h a.1
def MY (f:Fn) (i:Nat) (p:Pc):Prop:=p.fr≤999999999999∧(∀ q,0 < i→f.ps[i - 1]?=some q→q.fr < p.fr)∧Qz p.att f.den=some 0∧p.att≤QA 999999999999 f.den∧QA (-999999999999) f.den≤p.att∧p.slope≤1000000∧-1000000≤p.slope
def UR (f:Fn):Prop:=E8 f.den∧(1≤f.ps.length∧f.ps.length≤64)∧(∀ x,f.ps[0]?=some x→x.fr=0)∧∀ (i:Nat) p,f.ps[i]?=some p→MY f i p
theorem tF (f:Fn) (hl:f.ps.length≤9223372036854775807):DT f=some (mb (UR f)):=by
 rw [DT,MZ]
 simp only [Option.bind_some,Bo,EH,Bu]
 unfold UR
 by_cases hr:E8 f.den
 rotate_left
 · rw [Ad hr];exact H9 fun h=>hr h.1
 rw [Ag hr]
 by_cases h1:((f.ps.length:Nat):Int) < 1
 · rw [Ag h1];exact H9 fun h=>by omega
 rw [Ad h1]
 by_cases h2:64 < ((f.ps.length:Nat):Int)
 · rw [Ag h2];exact H9 fun h=>by omega
 rw [Ad h2]
 have hx0:f.ps[0]?=some f.ps[0]:=List.getElem?_eq_getElem (by omega)
 rw [hx0]
 simp only [Option.bind_some]
 by_cases h3:f.ps[0].fr=0
 rotate_left
 · rw [Ad h3];exact H9 fun h=>h3 (h.2.2.1 _ rfl)
 rw [Ag h3]
 have hden:f.den≠0:=by unfold E8 at hr;omega
 rw [Io (v:=false) (P:=fun i y=>MY f i y) hl (fun i y hy=>by
   have hi:i < f.ps.length:=(List.getElem?_eq_some_iff.1 hy).1
   simp only [Em,EH,Bo,F6,Bu]
   have hd:∃ z,Qz y.att f.den=some z:=by unfold Qz;rw [if_neg hden];exact ⟨_,rfl⟩
   obtain ⟨z,hz⟩:=hd
   unfold MY
   rw [hz]
   by_cases h0:(0:Int) < ((i:Nat):Int)
   · rw [Ag h0,ML (by omega)]
     have hq:f.ps[i - 1]?=some f.ps[i - 1]:=List.getElem?_eq_getElem (by omega)
     have hg:LC f.ps (((i:Nat):Int) - 1)=some f.ps[i - 1]:=by
       unfold LC
       rw [show (((i:Nat):Int) - 1).toNat=i - 1 by omega]
       simp only [hq]
       first | rfl | (rw [if_pos (by omega)])
     rw [hg,hq]
     simp only [Option.bind_some,WA,WO,X1,mG]
     congr 2
     apply propext
     simp only [Option.some.injEq,forall_eq']
     grind
   · rw [Ad h0]
     simp only [Option.bind_some,WA,WO,X1,mG]
     congr 2
     apply propext
     simp only [Option.some.injEq]
     have:¬ 0 < i:=by omega
     grind),GF]
 refine Ke ⟨fun h=>⟨hr,by omega,fun x hx=>by cases hx;exact h3,h⟩,fun h=>h.2.2.2⟩
def Qi (s:ByteArray):Prop:=s=JD∨s=SO∨s=Iq∨s=Ij∨s=Hh∨s=On∨s=Hp∨s=KK∨s=NW∨s=Om∨s=Tu
def LA (k:Nd):Prop:=k.kind=11∧k.unit=Bj∧E8 k.n
def My (n:Nd):Prop :=
 (n.kind=11∧Iy n.unit∧0≤n.n∧n.n≤999999999999∧(n.unit=AO→n.n≤1)∧n.kids.length=0∧Dm n ⟨0,ByteArray.empty,n.unit,n.n,0,0,0,⟨0,[]⟩,[],0⟩) ∨
 (n.kind=12∧Hb n.name∧n.kids.length=0∧Dm n ⟨0,n.name,ByteArray.empty,0,0,0,0,⟨0,[]⟩,[],0⟩) ∨
 (n.kind=13∧E8 n.n∧n.kids.length=0∧Dm n ⟨0,ByteArray.empty,ByteArray.empty,n.n,0,0,0,⟨0,[]⟩,[],0⟩) ∨
 (n.kind=14∧OZ n.name∧n.kids.length=0∧Dm n ⟨0,n.name,ByteArray.empty,0,0,0,0,⟨0,[]⟩,[],0⟩) ∨
 (n.kind=15∧n.kids.length=1∧Dm n ⟨0,ByteArray.empty,ByteArray.empty,0,0,0,0,⟨0,[]⟩,[],0⟩) ∨
 (n.kind=16∧Dm n ⟨0,n.name,ByteArray.empty,0,0,0,0,⟨0,[]⟩,[],0⟩∧n.kids.length=2∧Qi n.name∧(n.name=JD→∀ k,n.kids[1]?=some k→LA k)) ∨
 (n.kind=17∧(n.name=Hm∨n.name=Er)∧Dm n ⟨0,n.name,ByteArray.empty,0,0,0,0,⟨0,[]⟩,[],0⟩∧2≤n.kids.length) ∨
 (n.kind=18∧Dm n ⟨0,ByteArray.empty,ByteArray.empty,0,0,0,0,n.tab,[],0⟩∧UR n.tab∧n.kids.length=1)
mutual
def KH:Nd→Prop
 | ⟨kind,name,unit,n,fr,to,known,tab,kids,att⟩=>My ⟨kind,name,unit,n,fr,to,known,tab,kids,att⟩∧Zx kids
def Zx:List Nd→Prop
 | []=>True
 | k::ks=>KH k∧Zx ks
end
theorem Zw {l:List Nd}:Zx l↔∀ k∈l,KH k:=by
 induction l with
 | nil=>simp [Zx]
 | cons k l ih=>simp [Zx,ih]
theorem Nb (n:Nd):KH n↔My n∧∀ k∈n.kids,KH k:=by cases n;rw [KH,Zw]
end Mo
end Go.Proofs.YtkfplcngmiljaaaGreatDoor
namespace Go.Proofs.YtkfplcngmiljaaaGreatDoor
open AI Go
namespace Mo
set_option maxRecDepth 100000
set_option maxHeartbeats 4000000
theorem Ia {r:Option (Bool×Int)} {P Q:Prop} {t u:Int} {f:Bool×Int→Option (Bool×Int)} (h:Out r P t) (hT:P→Out (f (true,t)) Q u) (hF:∀ z,¬ P→Out (f (false,z)) Q u):Out (r.bind f) Q u:=by
 obtain ⟨z,rfl,h2⟩:=h
 by_cases hp:P
 · rw [Bk.2 hp,h2 hp];exact hT hp
 · rw [SK hp];exact hF z hp
theorem oN {Q:Prop} {t u:Int} (hq:Q) (h:t=u):Out (some (true,t)) Q u:=⟨t,by rw [Bk.2 hq],fun _=>h⟩
theorem H3 {r:Option (Bool×Int)} {P Q:Prop} {t u:Int} (h:Out r P t) (hp:P↔Q) (ht:P→t=u):Out (r.bind fun (a,b)=>some (a,b)) Q u :=
 Ia h (fun p=>oN (hp.1 p) (ht p)) fun _ p=>F9 fun q=>p (hp.2 q)
section
variable {p q r:Prop} {z:Int}
theorem R4:AQ p (some (mb q,z)) (some (false,z))=some (mb (p∧q),z):=by
 by_cases h:p
 · rw [Ag h];congr 2;exact FC ⟨fun a=>⟨h,a⟩,fun a=>a.2⟩
 · rw [Ad h,SK];exact fun a=>h a.1
theorem UX:AQ p (some (false,z)) (some (mb q,z))=some (mb (¬ p∧q),z):=by
 by_cases h:p
 · rw [Ag h,SK];exact fun a=>a.1 h
 · rw [Ad h];congr 2;exact FC ⟨fun a=>⟨h,a⟩,fun a=>a.2⟩
theorem Xp:AQ p (some (mb q,z)) (some (mb r,z))=some (mb ((p→q)∧(¬ p→r)),z):=by
 by_cases h:p
 · rw [Ag h];congr 2;exact FC ⟨fun a=>⟨fun _=>a,fun b=>absurd h b⟩,fun a=>a.1 h⟩
 · rw [Ad h];congr 2;exact FC ⟨fun a=>⟨fun b=>absurd b h,fun _=>a⟩,fun a=>a.2 h⟩
end
section
variable {n:Nd}
theorem Ye (h:n.kind=11):My n↔Iy n.unit∧0≤n.n∧n.n≤999999999999∧(n.unit=AO→n.n≤1)∧n.kids.length=0∧Dm n ⟨0,ByteArray.empty,n.unit,n.n,0,0,0,⟨0,[]⟩,[],0⟩:=by unfold My;simp [h]
theorem tA (h:n.kind=12):My n↔Hb n.name∧n.kids.length=0∧Dm n ⟨0,n.name,ByteArray.empty,0,0,0,0,⟨0,[]⟩,[],0⟩:=by unfold My;simp [h]
theorem pX (h:n.kind=13):My n↔E8 n.n∧n.kids.length=0∧Dm n ⟨0,ByteArray.empty,ByteArray.empty,n.n,0,0,0,⟨0,[]⟩,[],0⟩:=by unfold My;simp [h]
theorem tX (h:n.kind=14):My n↔OZ n.name∧n.kids.length=0∧Dm n ⟨0,n.name,ByteArray.empty,0,0,0,0,⟨0,[]⟩,[],0⟩:=by unfold My;simp [h]
theorem cP (h:n.kind=15):My n↔n.kids.length=1∧Dm n ⟨0,ByteArray.empty,ByteArray.empty,0,0,0,0,⟨0,[]⟩,[],0⟩:=by unfold My;simp [h]
theorem gK (h:n.kind=16):My n↔Dm n ⟨0,n.name,ByteArray.empty,0,0,0,0,⟨0,[]⟩,[],0⟩∧n.kids.length=2∧Qi n.name∧(n.name=JD→∀ k,n.kids[1]?=some k→LA k):=by unfold My;simp [h]
theorem eP (h:n.kind=17):My n↔(n.name=Hm∨n.name=Er)∧Dm n ⟨0,n.name,ByteArray.empty,0,0,0,0,⟨0,[]⟩,[],0⟩∧2≤n.kids.length:=by unfold My;simp [h]
theorem eA (h:n.kind=18):My n↔Dm n ⟨0,ByteArray.empty,ByteArray.empty,0,0,0,0,n.tab,[],0⟩∧UR n.tab∧n.kids.length=1:=by unfold My;simp [h]
theorem OG (h:My n):n.kind=11∨n.kind=12∨n.kind=13∨n.kind=14∨n.kind=15∨n.kind=16∨n.kind=17∨n.kind=18:=by
 unfold My at h
 rcases h with h | h | h | h | h | h | h | h
 all_goals
   have:=h.1
   simp [this]
end
def Jn (l:List Nd) (c d:Int):Prop:=(∀ k∈l,KH k∧d+Lv k≤41)∧c+Iv l≤2000
theorem iO {l:List Nd} {c d:Int} (h:l.length=0) (hc:c≤2000):Jn l c d∧c=c+Iv l:=by
 obtain rfl:=List.eq_nil_of_length_eq_zero h
 exact ⟨⟨(fun k hk=>(by cases hk)),(by simp only [Iv];omega)⟩,(by simp [Iv])⟩
theorem iW {x:Nd} {c d:Int}:Jn [x] c d↔KH x∧c+Ef x≤2000∧d+Lv x≤41:=by
 unfold Jn
 simp only [List.mem_singleton,forall_eq,Iv,Nat.add_zero]
 exact ⟨fun a=>⟨a.1.1,a.2,a.1.2⟩,fun a=>⟨⟨a.1,a.2.2⟩,a.2.1⟩⟩
theorem SW {x y:Nd} {c d:Int}:Jn [x,y] c d↔(KH x∧c+Ef x≤2000∧d+Lv x≤41)∧KH y∧c+Ef x+Ef y≤2000∧d+Lv y≤41:=by
 unfold Jn
 simp only [List.mem_cons,List.not_mem_nil,or_false,forall_eq_or_imp,forall_eq,Iv,Nat.add_zero,Int.natCast_add]
 constructor
 · rintro ⟨⟨⟨a,b⟩,c',d'⟩,e⟩;exact ⟨⟨a,by omega,b⟩,c',by omega,d'⟩
 · rintro ⟨⟨a,b,c'⟩,d',e,f⟩;exact ⟨⟨⟨a,c'⟩,d',f⟩,by omega⟩
abbrev rW (g:Ck→Nd→Int→Option (Bool×Int)) (n:Nd):Prop:=∀ (c d:Int),0≤c→c≤2000→0≤d→d≤41→Out (g ⟨c⟩ n d) (KH n∧c+Ef n≤2000∧d+Lv n≤41) (c+Ef n)
theorem QO {g:Ck→Nd→Int→Option (Bool×Int)} {b a:Ck→Nd→Int→Option (Bool×Int)} {l:Ck→List Nd→Int→Option (Bool×Int)} {n:Nd} (h:rW g n) {c d:Int} (h0:0≤c) (h1:c≤2000) (h2:0≤d) (h3:d≤41) :
   Out (BK g b a l ⟨c⟩ n d) ((KH n∧LA n)∧c+Ef n≤2000∧d+Lv n≤41) (c+Ef n):=by
 rw [BK]
 simp only [Bu,B8,Bo,MZ,Option.bind_some]
 refine Ia (h c d h0 h1 h2 h3) (fun hp=>?_) fun z hp=>F9 fun q=>hp ⟨q.1.1,q.2⟩
 show Out (AQ (n.kind=11) (AQ (n.unit=Bj) (some (mb (E8 n.n),c+Ef n)) (some (false,c+Ef n))) (some (false,c+Ef n))) _ _
 rw [R4,R4]
 exact ME ⟨fun a=>⟨⟨hp.1,a⟩,hp.2⟩,fun a=>a.1.2⟩
theorem Xm {g n':Ck→Nd→Int→Option (Bool×Int)} {b:Ck→Nd→Int→Option (Bool×Int)} {l:Ck→List Nd→Int→Option (Bool×Int)} {n:Nd} (hg:∀ k∈n.kids,rW g k)
   (hn:∀ k∈n.kids,∀ c d:Int,0≤c→c≤2000→0≤d→d≤41→Out (n' ⟨c⟩ k d) ((KH k∧LA k)∧c+Ef k≤2000∧d+Lv k≤41) (c+Ef k)) {c d:Int} (h0:0≤c) (h1:c≤2000) (h2:0≤d) (h3:d≤40) :
   Out (BM g b n' l ⟨c⟩ n d) ((n.kids.length=2∧Qi n.name∧(n.name=JD→∀ k,n.kids[1]?=some k→LA k))∧Jn n.kids c (d+1)) (c+Iv n.kids):=by
 rw [BM,CI (by omega)]
 simp only [Bu,B8,Bo]
 generalize hl:n.kids=ks at *
 by_cases hlen:((ks.length:Nat):Int)=2
 rotate_left
 · rw [Ad hlen];exact F9 fun q=>hlen (by have:=q.1.1;omega)
 rw [Ag hlen]
 match ks,hlen with
 | [x,y],_ =>
 simp only [List.getElem?_cons_zero,List.getElem?_cons_succ,Option.bind_some]
 refine Ia (hg x (by simp) c (d+1) h0 h1 (by omega) (by omega)) (fun hx=>?_) fun z hx=>F9 fun q=>hx (SW.1 q.2).1
 dsimp only
 rw [cond_true]
 have hsz:Iv [x,y]=Ef x+Ef y:=by simp [Iv]
 have hy:=fun hc=>hg y (by simp) (c+Ef x) (d+1) (by omega) hc (by omega) (by omega)
 have hn':=fun hc=>hn y (by simp) (c+Ef x) (d+1) (by omega) hc (by omega) (by omega)
 have hy:=hy hx.2.1
 have hn':=hn' hx.2.1
 by_cases hs:n.name=JD
 · rw [Ag hs]
   refine H3 hn' ⟨fun a=>⟨⟨rfl,.inl hs,fun _ k hk=>by cases hk;exact a.1.2⟩,SW.2 ⟨hx,a.1.1,a.2⟩⟩,fun a=>?_⟩ (fun a=>by rw [hsz];omega)
   have:=(SW.1 a.2).2
   exact ⟨⟨this.1,a.1.2.2 hs y rfl⟩,this.2⟩
 · rw [Ad hs]
   have fin:∀ hop:Qi n.name,Out ((g ⟨c+Ef x⟩ y (d+1)).bind fun (a,b)=>some (a,b)) ((([x,y]:List Nd).length=2∧Qi n.name∧(n.name=JD→∀ k,some y=some k→LA k))∧Jn [x,y] c (d+1)) (c+Iv [x,y]):=fun hop =>
     H3 hy ⟨fun a=>⟨⟨rfl,hop,fun e=>absurd e hs⟩,SW.2 ⟨hx,a⟩⟩,fun a=>(SW.1 a.2).2⟩ (fun a=>by rw [hsz];omega)
   have step:∀ {s:ByteArray} {A:Option (Bool×Int)},(n.name=s→Qi n.name)→(n.name≠s→Out A ((([x,y]:List Nd).length=2∧Qi n.name∧(n.name=JD→∀ k,some y=some k→LA k))∧Jn [x,y] c (d+1)) (c+Iv [x,y])) →
       Out (AQ (n.name=s) ((g ⟨c+Ef x⟩ y (d+1)).bind fun (a,b)=>some (a,b)) A) ((([x,y]:List Nd).length=2∧Qi n.name∧(n.name=JD→∀ k,some y=some k→LA k))∧Jn [x,y] c (d+1)) (c+Iv [x,y]):=by
     intro s A h4 h5
     by_cases h:n.name=s
     · rw [Ag h];exact fin (h4 h)
     · rw [Ad h];exact h5 h
   refine step (fun e=>by unfold Qi;simp [e]) fun e1=>?_
   refine step (fun e=>by unfold Qi;simp [e]) fun e2=>?_
   refine step (fun e=>by unfold Qi;simp [e]) fun e3=>?_
   refine step (fun e=>by unfold Qi;simp [e]) fun e4=>?_
   refine step (fun e=>by unfold Qi;simp [e]) fun e5=>?_
   refine step (fun e=>by unfold Qi;simp [e]) fun e6=>?_
   refine step (fun e=>by unfold Qi;simp [e]) fun e7=>?_
   refine step (fun e=>by unfold Qi;simp [e]) fun e8=>?_
   refine step (fun e=>by unfold Qi;simp [e]) fun e9=>?_
   refine step (fun e=>by unfold Qi;simp [e]) fun pC=>?_
   exact F9 fun q=>by
     have:=q.1.2.1
     unfold Qi at this
     simp [hs,e1,e2,e3,e4,e5,e6,e7,e8,e9,pC] at this
theorem Zi {A L B T:Prop} {x:Int}:(A∧¬ x < 0∧¬ 999999999999 < x∧(T→¬ 1 < x∧L∧B)∧(¬ T→L∧B))↔A∧0≤x∧x≤999999999999∧(T→x≤1)∧L∧B:=by
 constructor
 · rintro ⟨a,b,c,d,e⟩
   by_cases t:T
   · exact ⟨a,by omega,by omega,fun _=>by have:=(d t).1;omega,(d t).2⟩
   · exact ⟨a,by omega,by omega,fun h=>absurd h t,e t⟩
 · rintro ⟨a,b,c,d,e⟩
   exact ⟨a,by omega,by omega,fun t=>⟨by have:=d t;omega,e⟩,fun _=>e⟩
theorem XH:∀ (q:Nat) (n:Nd),DC n→3*Ef n≤q→rW (At q) n:=by
 intro q
 induction q using Nat.strongRecOn with
 | _ q ih =>
 intro n hok hq c d h0 h1 h2 h3
 have hsz:=Dz n
 obtain ⟨q,rfl⟩:∃ k,q=k+1:=⟨q - 1,by omega⟩
 obtain ⟨hps,hkl,hks⟩:=Fa hok
 have hE:∀ k∈n.kids,∀ q',q≤q'+2→q' < q+1→rW (At q') k:=fun k hk q' h4 h5=>ih q' h5 k (hks k hk) (by have:=FK hk;omega)
 rw [At,Cz]
 refine Ia (PX n h0 h1) (fun hp=>?_) fun z hp=>F9 fun a=>hp ⟨by omega,by have:=K4 n;omega⟩
 dsimp only
 rw [cond_true]
 refine Out.congr (P:=My n∧Jn n.kids (c+1) (d+1)) (t:=(c+1)+Iv n.kids) ?_ ?_ (fun _=>by omega)
 rotate_left
 · rw [Nb,K4]
   unfold Jn
   have hd:=@PV n.kids
   constructor
   · rintro ⟨a,b,e⟩
     refine ⟨⟨a,fun k hk=>(b k hk).1⟩,by omega,?_⟩
     have:=(hd (m:=(40 - d).toNat)).2 fun k hk=>by have:=(b k hk).2;omega
     omega
   · rintro ⟨⟨a,b⟩,e,f⟩
     refine ⟨a,fun k hk=>⟨b k hk,?_⟩,by omega⟩
     have:=(hd (m:=ZD n.kids)).1 (Nat.le_refl _) k hk
     omega
 have hc1:=hp.1
 have hd1:=hp.2
 rw [CI (a:=d) (b:=1) (by omega)]
 have e0:(((n.kids.length:Nat):Int)=0)=(n.kids.length=0):=propext (by omega)
 simp only [Bu,F6,EH,B8,Bo,VC,Vy,MZ,Y8,tF _ hps,Pr _ _ hps,Option.bind_some,e0]
 have hleaf:∀ {B:Prop},(B↔My n)→(B→n.kids.length=0)→Out (some (mb B,c+1)) (My n∧Jn n.kids (c+1) (d+1)) (c+1+Iv n.kids):=fun hB hk=>(ME hB).congr ⟨fun a=>⟨a,(iO (hk (hB.2 a)) hc1).1⟩,fun a=>a.1⟩ fun a=>(iO (d:=d+1) (hk (hB.2 a.1)) hc1).2
 have hone:∀ {B:Prop},(My n↔B∧n.kids.length=1)→B→n.kids.length=1→Out ((n.kids[0]?).bind fun x=>(At q ⟨c+1⟩ x (d+1)).bind fun (a,b)=>some (a,b)) (My n∧Jn n.kids (c+1) (d+1)) (c+1+Iv n.kids):=by
   intro B hB hb hl
   have hE0:=fun k hk=>hE k hk q (by omega) (by omega)
   have hx:=hB.2 ⟨hb,hl⟩
   generalize n.kids=ks at *
   match ks,hl with
   | [x],_ =>
   simp only [List.getElem?_cons_zero,Option.bind_some]
   refine H3 (hE0 x (by simp) (c+1) (d+1) (by omega) hc1 (by omega) (by omega)) ⟨fun a=>⟨hx,iW.2 a⟩,fun a=>iW.1 a.2⟩ fun _=>?_
   simp [Iv]
 by_cases Yi:n.kind=11
 · rw [Ag Yi]
   simp only [R4,UX,Xp]
   refine hleaf ?_ ?_
   · rw [Ye Yi];exact Zi
   · intro h;exact (Zi.1 h).2.2.2.2.1
 rw [Ad Yi]
 by_cases YB:n.kind=12
 · rw [Ag YB]
   simp only [R4,UX,Xp]
   refine hleaf ?_ ?_
   · rw [tA YB]
   · intro h;exact h.2.1
 rw [Ad YB]
 by_cases Yq:n.kind=13
 · rw [Ag Yq]
   simp only [R4,UX,Xp]
   refine hleaf ?_ ?_
   · rw [pX Yq]
   · intro h;exact h.2.1
 rw [Ad Yq]
 by_cases Y3:n.kind=14
 · rw [Ag Y3]
   simp only [R4,UX,Xp]
   refine hleaf ?_ ?_
   · rw [tX Y3]
   · intro h;exact h.2.1
 rw [Ad Y3]
 by_cases ZX:n.kind=15
 · rw [Ag ZX]
   have e:=cP ZX
   refine Eo (fun hl=>Eo (fun hb=>hone (e.trans And.comm) hb (by omega)) fun a=>(e.1 a.1).2) fun a=>?_
   have:=(e.1 a.1).1
   omega
 rw [Ad ZX]
 by_cases VG:n.kind=16
 · rw [Ag VG]
   have e:=gK VG
   refine Eo (fun hb=>?_) fun a=>(e.1 a.1).1
   obtain ⟨q,rfl⟩:∃ k,q=k+1:=⟨q - 1,by omega⟩
   rw [AE]
   refine H3 (Xm (g:=At q) (b:=AE q) (n':=Aw q) (l:=As q) (fun k hk=>hE k hk q (by omega) (by omega)) (fun k hk c d a1 a2 a3 a4=>?_) (by omega) hc1 h2 hd1) ?_ fun _=>rfl
   · obtain ⟨q,rfl⟩:∃ k,q=k+1:=⟨q - 1,by have:=M9 hk;have:=Dz k;omega⟩
     rw [Aw]
     exact QO (hE k hk q (by omega) (by omega)) a1 a2 a3 a4
   · rw [e]
     exact ⟨fun a=>⟨⟨hb,a.1⟩,a.2⟩,fun a=>⟨a.1.2,a.2⟩⟩
 rw [Ad VG]
 by_cases XX:n.kind=17
 · rw [Ag XX]
   have e:=eP XX
   have hall:(n.name=Hm∨n.name=Er)→Out (AQ (Dm n ⟨0,n.name,ByteArray.empty,0,0,0,0,⟨0,[]⟩,[],0⟩) (AQ (2≤((n.kids.length:Nat):Int)) ((As q ⟨c+1⟩ n.kids (d+1)).bind fun (a,b)=>some (a,b)) (some (false,c+1))) (some (false,c+1))) (My n∧Jn n.kids (c+1) (d+1)) (c+1+Iv n.kids):=by
     intro hn
     refine Eo (fun hb=>Eo (fun hl=>?_) fun a=>?_) fun a=>(e.1 a.1).2.1
     · obtain ⟨q,rfl⟩:∃ k,q=k+1:=⟨q - 1,by have:=J7 n.kids;omega⟩
       rw [As,BT,DJ hkl,List.drop_zero]
       dsimp only
       refine H3 (KR (g:=At q) (p:=KH) (d:=d+1) (by omega) hc1 fun k hk c' b0 b1=>hE k hk q (by omega) (by omega) c' (d+1) b0 b1 (by omega) (by omega)) ?_ fun _=>rfl
       rw [e]
       exact ⟨fun a=>⟨⟨hn,hb,by omega⟩,a⟩,fun a=>a.2⟩
     · have:=(e.1 a.1).2.2
       omega
   by_cases hn1:n.name=Hm
   · rw [Ag hn1];exact hall (.inl hn1)
   · rw [Ad hn1]
     exact Eo (fun hn2=>hall (.inr hn2)) fun a=>(e.1 a.1).1.resolve_left hn1
 rw [Ad XX]
 by_cases YR:n.kind=18
 · rw [Ag YR]
   have e:=eA YR
   refine Eo (fun hb=>Eo (fun ht=>Eo (fun hl=>hone (B:=Dm n ⟨0,ByteArray.empty,ByteArray.empty,0,0,0,0,n.tab,[],0⟩∧UR n.tab) (e.trans (by rw [and_assoc])) ⟨hb,ht⟩ (by omega)) fun a=>?_) fun a=>(e.1 a.1).2.1) fun a=>(e.1 a.1).1
   have:=(e.1 a.1).2.2
   omega
 rw [Ad YR]
 exact F9 fun a=>by have:=OG a.1;omega
def Le {β:Type} (a b:Option β):Prop:=∀ y,a=some y→b=some y
section
variable {α β γ δ ρ:Type}
theorem Le.refl (a:Option β):Le a a:=fun _ h=>h
theorem Hz {a a':Option α} {f g:α→Option β} (h:Le a a') (k:∀ x,Le (f x) (g x)):Le (a.bind f) (a'.bind g):=by
 intro y hy
 cases a with
 | none=>cases hy
 | some x=>rw [h x rfl];exact k x y hy
theorem OI {b:Bool} {x x' y y':Option β} (h:Le x x') (k:Le y y'):Le (cond b x y) (cond b x' y'):=by cases b;exact k;exact h
theorem ZI {n:Nat} {x x':Option β} (h:Le x x'):Le (It n x) (It n x'):=by
 unfold It
 split
 · exact h
 · exact Le.refl _
theorem SN {body body':Nat→α→γ→Option (Lp γ δ ρ)} {done:γ→δ} (h:∀ i y x,Le (body i y x) (body' i y x)):∀ (l:List α) (i:Nat) (x:γ),Le (AL body done l i x) (AL body' done l i x)
 | [],_,_=>Le.refl _
 | a::l,i,x=>by
   rw [AL,AL]
   refine Hz (h i a x) fun z=>?_
   cases z with
   | nx x'=>exact SN h l (i+1) x'
   | ex d=>exact Le.refl _
   | rt v=>exact Le.refl _
end
theorem SM:∀ q:Nat,(∀ c n d,Le (At q c n d) (At (q+1) c n d))∧(∀ c n d,Le (AE q c n d) (AE (q+1) c n d))∧(∀ c n d,Le (Aw q c n d) (Aw (q+1) c n d))∧(∀ c n d,Le (As q c n d) (As (q+1) c n d))
 | 0=>⟨(fun _ _ _ _ h=>nomatch h),(fun _ _ _ _ h=>nomatch h),(fun _ _ _ _ h=>nomatch h),(fun _ _ _ _ h=>nomatch h)⟩
 | q+1=>by
   obtain ⟨i1,i2,i3,i4⟩:=SM q
   refine ⟨fun c n d=>?_,fun c n d=>?_,fun c n d=>?_,fun c n d=>?_⟩
   · rw [At,At,Cz,Cz]
     repeat' first
       | exact Le.refl _
       | exact i1 _ _ _
       | exact i2 _ _ _
       | exact i4 _ _ _
       | refine OI ?_ ?_
       | refine Hz ?_ fun ⟨_,_⟩=>?_
       | refine Hz ?_ fun _=>?_
   · rw [AE,AE,BM,BM]
     repeat' first
       | exact Le.refl _
       | exact i1 _ _ _
       | exact i3 _ _ _
       | refine OI ?_ ?_
       | refine Hz ?_ fun ⟨_,_⟩=>?_
       | refine Hz ?_ fun _=>?_
   · rw [Aw,Aw,BK,BK]
     exact Hz (i1 _ _ _) fun _=>Le.refl _
   · rw [As,As,BT,BT]
     refine Hz (ZI (SN (fun i y x=>?_) _ _ _)) fun _=>Le.refl _
     rw [Ce,Ce]
     exact Hz (i1 _ _ _) fun _=>Le.refl _
theorem UJ {β:Type} {f:Nat→Option β} (h:∀ q,Le (f q) (f (q+1))) {q:Nat} {y:β} (hy:f q=some y):Xv f=some y:=by
 refine Nk q fun m hm=>?_
 induction m with
 | zero=>obtain rfl:q=0:=by omega
         exact hy
 | succ m ih =>
   rcases Nat.lt_or_ge m q with hlt | hge
   · obtain rfl:q=m+1:=by omega
     exact hy
   · exact h m y (ih hge)
theorem ZZ {n:Nd} (hok:DC n):rW D0 n:=by
 intro c d h0 h1 h2 h3
 obtain ⟨z,hz,hz2⟩:=XH (3*Ef n) n hok (Nat.le_refl _) c d h0 h1 h2 h3
 exact ⟨z,UJ (fun q=>(SM q).1 _ _ _) hz,hz2⟩
theorem Yh {n:Nd} (hok:DC n) {c d:Int} (h0:0≤c) (h1:c≤2000) (h2:0≤d) (h3:d≤41):Out (Dw ⟨c⟩ n d) ((KH n∧LA n)∧c+Ef n≤2000∧d+Lv n≤41) (c+Ef n):=by
 obtain ⟨z,hz,hz2⟩:=QO (g:=At (3*Ef n)) (b:=AE (3*Ef n)) (a:=Aw (3*Ef n)) (l:=As (3*Ef n)) (XH (3*Ef n) n hok (Nat.le_refl _)) h0 h1 h2 h3
 exact ⟨z,UJ (q:=3*Ef n+1) (fun q=>(SM q).2.2.1 _ _ _) (by rw [Aw];exact hz),hz2⟩
end Mo
end Go.Proofs.YtkfplcngmiljaaaGreatDoor
namespace Go.Proofs.YtkfplcngmiljaaaGreatDoor
open AI Go
namespace Mo
set_option maxRecDepth 100000
set_option maxHeartbeats 4000000
abbrev z0:Nd:=⟨0,ByteArray.empty,ByteArray.empty,0,0,0,0,⟨0,[]⟩,[],0⟩
theorem jM (n:Int):DN n=some (mb (WK n)):=by
 rw [DN]
 simp only [F6,Bo,GF,EC]
 rfl
def JS (n:Nd):Prop:=n.kind=5∧(0≤n.n∧n.n≤1000000)∧n.kids.length=0∧WK n.fr∧(n.fr < n.to∧n.to≤36525)∧WK n.known∧Dm n ⟨0,ByteArray.empty,ByteArray.empty,n.n,n.fr,n.to,n.known,⟨0,[]⟩,[],0⟩
def Bz (n:Nd):Prop:=Dm n z0∧(n.kind=7→0 < n.kids.length∧∀ k∈n.kids,KH k∧LA k)∧(n.kind≠7→n.kids.length=1∧∀ k∈n.kids,KH k)
theorem Vw {n:Nd} (h:n.kids.length=0):Ef n=1∧Lv n=1:=by
 have:=List.eq_nil_of_length_eq_zero h
 rw [Dz,K4,this]
 exact ⟨rfl,rfl⟩
theorem jY {n:Nd} (hok:DC n) {c d:Int} (h0:0≤c) (h1:c≤2000):Out (C8 ⟨c⟩ n d) (JS n∧c+Ef n≤2000∧d+Lv n≤41) (c+Ef n):=by
 obtain ⟨hps,hkl,hks⟩:=Fa hok
 have hsz:=Dz n
 have hdp:=K4 n
 rw [C8]
 refine Ia (PX n h0 h1) (fun hp=>?_) fun z hp=>F9 fun a=>hp ⟨by omega,by omega⟩
 dsimp only
 rw [cond_true]
 simp only [Bu,F6,EH,Bo,jM,Pr _ _ hps,Option.bind_some,R4,UX]
 have key:(n.kind=5∧¬ n.n < 0∧¬ 1000000 < n.n∧¬ (0:Int) < ((n.kids.length:Nat):Int)∧WK n.fr∧¬ n.to≤n.fr∧¬ 36525 < n.to∧WK n.known∧Dm n ⟨0,ByteArray.empty,ByteArray.empty,n.n,n.fr,n.to,n.known,⟨0,[]⟩,[],0⟩)↔JS n:=by
   unfold JS
   constructor
   · rintro ⟨a,b,c',e,f,g,h,i,j⟩;exact ⟨a,⟨by omega,by omega⟩,by omega,f,⟨by omega,by omega⟩,i,j⟩
   · rintro ⟨a,b,c',f,g,i,j⟩;exact ⟨a,by omega,by omega,by omega,f,by omega,by omega,i,j⟩
 refine (ME key).congr ⟨fun a=>⟨a,?_⟩,fun a=>a.1⟩ fun a=>?_
 · have:=Vw a.2.2.1;omega
 · have:=Vw a.1.2.2.1;omega
theorem Zc {n:Nd} (hok:DC n) {c d:Int} (h0:0≤c) (h1:c≤2000) (h2:0≤d):Out (Ca ⟨c⟩ n d) (Bz n∧c+Ef n≤2000∧d+Lv n≤41) (c+Ef n):=by
 obtain ⟨hps,hkl,hks⟩:=Fa hok
 have hsz:=Dz n
 have hdp:=K4 n
 have hd:=@PV n.kids
 rw [Ca]
 refine Ia (PX n h0 h1) (fun hp=>?_) fun z hp=>F9 fun a=>hp ⟨by omega,by omega⟩
 dsimp only
 rw [cond_true,CI (a:=d) (b:=1) (by omega)]
 simp only [Bu,EH,Bo,Pr _ _ hps,Option.bind_some]
 have hc1:=hp.1
 have hd1:=hp.2
 have Ng:(∀ k∈n.kids,d+1+Lv k≤41)↔d+Lv n≤41:=by
   constructor
   · intro h
     have:=(hd (m:=(40 - d).toNat)).2 fun k hk=>by have:=h k hk;omega
     omega
   · intro h k hk
     have:=(hd (m:=ZD n.kids)).1 (Nat.le_refl _) k hk
     omega
 refine Eo (fun hb=>?_) fun a=>a.1.1
 by_cases k7:n.kind=7
 · rw [Ag k7]
   refine Eo (fun hl=>?_) fun a=>by have:=(a.1.2.1 k7).1;omega
   rw [CP,DJ hkl,List.drop_zero]
   dsimp only
   refine H3 (KR (g:=Dw) (p:=fun k=>KH k∧LA k) (d:=d+1) (by omega) hc1 fun k hk c' b0 b1=>Yh (hks k hk) b0 b1 (by omega) (by omega)) ⟨fun a=>⟨⟨hb,fun _=>⟨by omega,fun k hk=>(a.1 k hk).1⟩,fun h=>absurd k7 h⟩,by omega,Ng.1 fun k hk=>(a.1 k hk).2⟩,fun a=>⟨fun k hk=>⟨(a.1.2.1 k7).2 k hk,Ng.2 a.2.2 k hk⟩,by omega⟩⟩ fun _=>by omega
 · rw [Ad k7]
   refine Eo (fun hl=>?_) fun a=>by have:=(a.1.2.2 k7).1;omega
   have hl1:n.kids.length=1:=by omega
   unfold Bz
   generalize n.kids=ks at *
   match ks,hl1 with
   | [x],_ =>
   simp only [List.getElem?_cons_zero,Option.bind_some]
   have e1:Iv [x]=Ef x:=by simp [Iv]
   refine H3 (ZZ (hks x (by simp)) (c+1) (d+1) (by omega) hc1 (by omega) (by omega)) ⟨fun a=>⟨⟨hb,fun h=>absurd h k7,fun _=>⟨rfl,fun k hk=>by rw [List.mem_singleton.1 hk];exact a.1⟩⟩,by omega,Ng.1 fun k hk=>by rw [List.mem_singleton.1 hk];exact a.2.2⟩,fun a=>⟨(a.1.2.2 k7).2 x (by simp),by omega,Ng.2 a.2.2 x (by simp)⟩⟩ fun _=>by omega
def Bg (k:Int):List Nd→Nat
 | []=>0
 | a::l=>(if a.kind=k then 1 else 0)+Bg k l
theorem Kl (k:Int) (l:List Nd):Bg k l≤l.length:=by
 induction l with
 | nil=>simp [Bg]
 | cons a l ih=>simp only [Bg,List.length_cons];split<;>omega
def kinds (l:List Nd):Prop:=∀ k∈l,6≤k.kind∧k.kind≤8
theorem Pu {y:Int}:∀ {l:List Nd} {i:Nat} {a b c:Int},0≤a→0≤b→0≤c→a+l.length≤9223372036854775807→b+l.length≤9223372036854775807→c+l.length≤9223372036854775807 →
   AL (fun i z x=>Cp y i z x.1 x.2.1 x.2.2) (fun x=>(x.1,x.2.1,x.2.2)) l i (a,b,c)=some (AQ (kinds l) (.inl (a+Bg 6 l,b+Bg 7 l,c+Bg 8 l)) (.inr (false,y)))
 | [],i,a,b,c,_,_,_,_,_,_=>by rw [Ag (show kinds [] from fun k hk=>(by cases hk))];simp [AL,Bg]
 | z::l,i,a,b,c,h1,h2,h3,h4,h5,h6=>by
   simp only [List.length_cons] at h4 h5 h6
   rw [AL,Cp]
   simp only [EH,Bu,Bo]
   have hk:kinds (z::l)↔(6≤z.kind∧z.kind≤8)∧kinds l:=by unfold kinds;simp
   have go:∀ {a' b' c':Int},0≤a'→0≤b'→0≤c'→a'≤a+1→b'≤b+1→c'≤c+1→6≤z.kind∧z.kind≤8→a'+Bg 6 l=a+Bg 6 (z::l)→b'+Bg 7 l=b+Bg 7 (z::l)→c'+Bg 8 l=c+Bg 8 (z::l) →
       (some (Lp.nx (a',b',c'))).bind (Gj (AL (fun i z x=>Cp y i z x.1 x.2.1 x.2.2) (fun x=>(x.1,x.2.1,x.2.2)) l (i+1)))=some (AQ (kinds (z::l)) (.inl (a+Bg 6 (z::l),b+Bg 7 (z::l),c+Bg 8 (z::l))) (.inr (false,y))):=by
     intro a' b' c' g1 g2 g3 g4 g5 g6 gk e1 e2 e3
     show AL _ _ l (i+1) (a',b',c')=_
     rw [Pu g1 g2 g3 (by omega) (by omega) (by omega),e1,e2,e3]
     by_cases hl:kinds l
     · rw [Ag hl,Ag (hk.2 ⟨gk,hl⟩)]
     · rw [Ad hl,Ad fun q=>hl (hk.1 q).2]
   by_cases k6:z.kind < 6
   · rw [Ag k6,Ad fun q=>by have:=(hk.1 q).1;omega];rfl
   rw [Ad k6]
   by_cases k8:8 < z.kind
   · rw [Ag k8,Ad fun q=>by have:=(hk.1 q).1;omega];rfl
   rw [Ad k8]
   by_cases e6:z.kind=6
   · rw [Ag e6,CI (by omega)]
     exact go (by omega) h2 h3 (by omega) (by omega) (by omega) (by omega) (by simp [Bg,e6];omega) (by simp [Bg,e6]) (by simp [Bg,e6])
   rw [Ad e6]
   by_cases e7:z.kind=7
   · rw [Ag e7,CI (by omega)]
     exact go h1 (by omega) h3 (by omega) (by omega) (by omega) (by omega) (by simp [Bg,e7]) (by simp [Bg,e7];omega) (by simp [Bg,e7])
   rw [Ad e7]
   have e8:z.kind=8:=by omega
   rw [Ag e8,CI (by omega)]
   exact go h1 h2 (by omega) (by omega) (by omega) (by omega) (by omega) (by simp [Bg,e8]) (by simp [Bg,e8]) (by simp [Bg,e8];omega)
def fY (n:Nd):Prop:=E8 n.n∧Hb n.name∧Dm n ⟨0,n.name,ByteArray.empty,n.n,0,0,0,⟨0,[]⟩,[],0⟩∧∃ h cs,n.kids=h::cs∧kinds cs∧Bg 8 cs=1∧Bg 7 cs≤1∧JS h∧∀ k∈cs,Bz k
def Gg (n:Nd):Prop :=
 (n.kind=2∧Hb n.name∧Iy n.unit∧n.kids.length=0∧Dm n ⟨0,n.name,n.unit,0,0,0,0,⟨0,[]⟩,[],0⟩) ∨
 (n.kind=3∧Hb n.name∧Iy n.unit∧1≤n.n∧n.n≤4∧n.kids.length=0∧Dm n ⟨0,n.name,n.unit,n.n,0,0,0,⟨0,[]⟩,[],0⟩) ∨
 (n.kind=4∧fY n)
theorem z7 {n:Nd} (h:n.kind=2):Gg n↔Hb n.name∧Iy n.unit∧n.kids.length=0∧Dm n ⟨0,n.name,n.unit,0,0,0,0,⟨0,[]⟩,[],0⟩:=by unfold Gg;simp [h]
theorem zP {n:Nd} (h:n.kind=3):Gg n↔Hb n.name∧Iy n.unit∧1≤n.n∧n.n≤4∧n.kids.length=0∧Dm n ⟨0,n.name,n.unit,n.n,0,0,0,⟨0,[]⟩,[],0⟩:=by unfold Gg;simp [h]
theorem vQ {n:Nd} (h:n.kind=4):Gg n↔fY n:=by unfold Gg;simp [h]
theorem SB {n:Nd} (h:Gg n):n.kind=2∨n.kind=3∨n.kind=4:=by
 unfold Gg at h
 rcases h with h | h | h
 all_goals
   have:=h.1
   simp [this]
theorem nK {n:Nd} (hok:DC n) {c d:Int} (h0:0≤c) (h1:c≤2000) (h2:0≤d):Out (Cw ⟨c⟩ n d) (Gg n∧c+Ef n≤2000∧d+Lv n≤41) (c+Ef n):=by
 obtain ⟨hps,hkl,hks⟩:=Fa hok
 have hsz:=Dz n
 have hdp:=K4 n
 have hd:=@PV n.kids
 rw [Cw]
 refine Ia (PX n h0 h1) (fun hp=>?_) fun z hp=>F9 fun a=>hp ⟨by omega,by omega⟩
 dsimp only
 rw [cond_true,CI (a:=d) (b:=1) (by omega)]
 have e0:(((n.kids.length:Nat):Int)=0)=(n.kids.length=0):=propext (by omega)
 simp only [Bu,F6,EH,Bo,VC,Vy,MZ,Pr _ _ hps,Option.bind_some,e0]
 have hc1:=hp.1
 have hd1:=hp.2
 have hleaf:∀ {B:Prop},(B↔Gg n)→(B→n.kids.length=0)→Out (some (mb B,c+1)) (Gg n∧c+Ef n≤2000∧d+Lv n≤41) (c+Ef n):=fun hB hk=>(ME hB).congr ⟨fun a=>⟨a,by have:=Vw (hk (hB.2 a));omega⟩,fun a=>a.1⟩ fun a=>by have:=Vw (hk (hB.2 a.1));omega
 by_cases k2:n.kind=2
 · rw [Ag k2]
   simp only [R4,UX,Xp]
   refine hleaf ?_ ?_
   · rw [z7 k2]
   · intro h;exact h.2.2.1
 rw [Ad k2]
 by_cases k3:n.kind=3
 · rw [Ag k3]
   simp only [R4,UX,Xp]
   refine hleaf ?_ ?_
   · rw [zP k3]
   · intro h;exact h.2.2.2.2.1
 rw [Ad k3]
 by_cases k4:n.kind=4
 rotate_left
 · rw [Ad k4];exact F9 fun a=>by have:=SB a.1;omega
 rw [Ag k4,vQ k4]
 refine Eo (fun hr=>Eo (fun hn=>Eo (fun hb=>?_) fun a=>a.1.2.2.1) fun a=>a.1.2.1) fun a=>a.1.1
 refine TF (fun hl0=>?_) fun a h=>by obtain ⟨h',cs,hk,_⟩:=a.1.2.2.2;rw [hk] at h;simp at h
 have Ng:(∀ k∈n.kids,d+1+Lv k≤41)↔d+Lv n≤41:=by
   constructor
   · intro h
     have:=(hd (m:=(40 - d).toNat)).2 fun k hk=>by have:=h k hk;omega
     omega
   · intro h k hk
     have:=(hd (m:=ZD n.kids)).1 (Nat.le_refl _) k hk
     omega
 unfold fY
 generalize n.kids=ks at *
 match ks,hl0 with
 | x::l,_ =>
 have hsub:Ku (x::l) 1 (((x::l).length:Nat):Int)=some l:=by
   unfold Ku
   rw [if_pos (by simp only [List.length_cons];omega)]
   simp
 rw [hsub]
 simp only [Option.bind_some,List.length_cons] at hkl ⊢
 have e2:∀ {A:Prop},(∃ h cs,x::l=h::cs∧kinds cs∧Bg 8 cs=1∧Bg 7 cs≤1∧JS h∧∀ k∈cs,Bz k)↔(kinds l∧Bg 8 l=1∧Bg 7 l≤1∧JS x∧∀ k∈l,Bz k):=by
   intro _
   constructor
   · rintro ⟨h,cs,e,r⟩;cases e;exact r
   · intro r;exact ⟨x,l,rfl,r⟩
 rw [DJ (by omega),List.drop_zero,Pu (by omega) (by omega) (by omega) (by omega) (by omega) (by omega)]
 simp only [Option.bind_some]
 by_cases hK:kinds l
 rotate_left
 · rw [Ad hK]
   show Out (some (false,c+1)) _ _
   exact F9 fun a=>hK ((e2 (A:=True)).1 a.1.2.2.2).1
 rw [Ag hK]
 show Out (AQ ((0:Int)+Bg 8 l=1) (AQ (1 < (0:Int)+Bg 7 l) (some (false,c+1)) _) (some (false,c+1))) _ _
 refine Eo (fun h8=>TF (fun h7=>?_) fun a=>?_) fun a=>?_
 rotate_left
 · have:=((e2 (A:=True)).1 a.1.2.2.2).2.2.1;omega
 · have:=((e2 (A:=True)).1 a.1.2.2.2).2.1;omega
 simp only [List.getElem?_cons_zero,Option.bind_some]
 have hdx:=fun h=>Ng.2 h x (by simp)
 have hsl:Iv (x::l)=Ef x+Iv l:=by simp [Iv]
 refine Ia (jY (hks x (by simp)) (c:=c+1) (d:=d+1) (by omega) hc1) (fun hx=>?_) fun z hx=>F9 fun a=>hx ⟨((e2 (A:=True)).1 a.1.2.2.2).2.2.2.1,by omega,hdx a.2.2⟩
 dsimp only
 rw [cond_true,CO,DJ (by omega),List.drop_zero]
 dsimp only
 refine H3 (KR (g:=Ca) (p:=Bz) (d:=d+1) (by omega) hx.2.1 fun k hk c' b0 b1=>Zc (hks k (by simp [hk])) b0 b1 (by omega)) ?_ fun _=>by omega
 constructor
 · rintro ⟨a,b⟩
   refine ⟨⟨hr,hn,hb,(e2 (A:=True)).2 ⟨hK,by omega,by omega,hx.1,fun k hk=>(a k hk).1⟩⟩,by omega,Ng.1 fun k hk=>?_⟩
   rcases List.mem_cons.1 hk with rfl | hk
   · exact hx.2.2
   · exact (a k hk).2
 · rintro ⟨a,b,e⟩
   exact ⟨fun k hk=>⟨((e2 (A:=True)).1 a.2.2.2).2.2.2.2 k hk,Ng.2 e k (by simp [hk])⟩,by omega⟩
def N7 (n:Nd):Prop:=((n.kind=1∧Dm n z0∧∀ k∈n.kids,Gg k)∨(n.kind≠1∧KH n))∧Ef n≤2000∧Lv n≤40
theorem Sa {n:Nd} (hok:DC n):DW n=some (mb (N7 n)):=by
 obtain ⟨hps,hkl,hks⟩:=Fa hok
 have hsz:=Dz n
 have hdp:=K4 n
 have hd:=@PV n.kids
 rw [DW,Bu,Bo]
 have fin:∀ {r:Option (Bool×Int)} {P:Prop} {t:Int},Out r P t→(P↔N7 n)→(r.bind fun (a,_)=>some a)=some (mb (N7 n)):=by
   rintro r P t ⟨z,rfl,_⟩ h
   rw [FC h];rfl
 by_cases k1:n.kind=1
 rotate_left
 · rw [Ad k1]
   refine fin (ZZ hok 0 1 (by omega) (by omega) (by omega) (by omega)) ?_
   unfold N7
   constructor
   · rintro ⟨a,b,c⟩;exact ⟨.inr ⟨k1,a⟩,by omega,by omega⟩
   · rintro ⟨a | a,b,c⟩
     · exact absurd a.1 k1
     · exact ⟨a.2,by omega,by omega⟩
 rw [Ag k1]
 obtain ⟨z,hz,hz2⟩:=PX n (c:=0) (d:=1) (by omega) (by omega)
 rw [hz]
 simp only [Option.bind_some,Pr _ _ hps,Bo]
 by_cases h1:(0:Int)+1≤2000∧(1:Int)≤40
 rotate_left
 · exact absurd ⟨by omega,by omega⟩ h1
 rw [Ag h1,hz2 h1]
 by_cases hb:Dm n z0
 rotate_left
 · rw [Ad hb]
   refine H9 ?_
   rintro ⟨a | a,_⟩
   · exact hb a.2.1
   · exact a.1 k1
 rw [Ag hb,C7,DJ hkl,List.drop_zero]
 dsimp only
 refine fin (KR (g:=Cw) (p:=Gg) (d:=2) (by omega) (by omega) fun k hk c' b0 b1=>nK (hks k hk) b0 b1 (by omega)) ?_
 unfold N7
 constructor
 · rintro ⟨a,b⟩
   refine ⟨.inl ⟨k1,hb,fun k hk=>(a k hk).1⟩,by omega,?_⟩
   have:=(hd (m:=39)).2 fun k hk=>by have:=(a k hk).2;omega
   omega
 · rintro ⟨a | a,b,e⟩
   · refine ⟨fun k hk=>⟨a.2.2 k hk,?_⟩,by omega⟩
     have:=(hd (m:=ZD n.kids)).1 (Nat.le_refl _) k hk
     omega
   · exact absurd k1 a.1
end Mo
end Go.Proofs.YtkfplcngmiljaaaGreatDoor
namespace Go.Proofs.YtkfplcngmiljaaaGreatDoor
open AI Go
namespace Mo
set_option maxRecDepth 100000
set_option maxHeartbeats 4000000
theorem Pw {β:Type} {p:Prop} {x y:β}:some (AQ p x y)=AQ p (some x) (some y):=by
 by_cases h:p
 · rw [Ag h,Ag h]
 · rw [Ad h,Ad h]
abbrev eS:ByteArray:=ByteArray.empty
def aJ (s:ByteArray):Prop:=s≠eS∧s≠AO∧s≠Bj∧s≠B2
theorem Sh (s:ByteArray):Ek s=some (mb (aJ s)):=by
 rw [Ek]
 simp only [B8,Bo,mE,ZK]
 rfl
theorem Ze {us:List ByteArray} {a:ByteArray} (ha:us[0]?=some a) (hl:us.length≤9223372036854775807):BW us.length us=some (mb (∀ u∈us,u=a)):=by
 rw [BW,VV]
 have h0:0 < us.length:=(List.getElem?_eq_some_iff.1 ha).1
 refine jR (fun i _=>∀ j u,j < i→us[j]?=some u→u=a) hl (fun j u hj=>by omega) (fun i x hi hI=>?_) (fun x hI=>?_)
 · have hx:us[i]?=some us[i]:=List.getElem?_eq_getElem hi
   rw [Gq,hx]
   have hk:L9 us.length ((0:Nat):Int)=some 0:=by unfold L9;rw [if_pos (by omega)];rfl
   rw [hk]
   simp only [Option.bind_some,ha,B8,Bo]
   by_cases h:us[i]=a
   · rw [Ag h]
     refine ⟨_,rfl,fun j u hj hu=>?_⟩
     rcases Nat.lt_or_ge j i with hlt | hge
     · exact hI j u hlt hu
     · obtain rfl:j=i:=by omega
       rw [hx] at hu;cases hu;exact h
   · rw [Ad h]
     refine ⟨_,rfl,?_⟩
     exact ⟨_,rfl,(SK fun q=>h (q _ (List.getElem_mem hi))).symm⟩
 · refine ⟨_,rfl,(Bk.2 fun u hu=>?_).symm⟩
   obtain ⟨j,hj⟩:=List.getElem?_of_mem hu
   exact hI j u (List.getElem?_eq_some_iff.1 hj).1 hj
noncomputable def QS (op a b:ByteArray) (E:Prop):ByteArray :=
 AQ (op=SO) (AQ (a=AO) (AQ E AO eS) eS) (AQ (op=Iq) (AQ (a=AO) (AQ E AO eS) eS) (AQ (op=Ij) (AQ E AO eS) (AQ (op=Hh) (AQ E AO eS)
   (AQ (op=On) (AQ E (AQ (a=AO) eS AO) eS) (AQ (op=Hp) (AQ E (AQ (a=AO) eS AO) eS) (AQ (op=KK) (AQ E (AQ (a=AO) eS a) eS) (AQ (op=NW) (AQ E (AQ (a=AO) eS a) eS)
     (AQ (op=Om) (AQ (a=Bj) (AQ (b=AO) eS b) (AQ (b=Bj) (AQ (a=AO) eS a) eS)) (AQ (op=JD) (AQ (a=AO) eS a) (AQ (op=Tu) (AQ (a=B2) (AQ (aJ b) b eS) eS) eS))))))))))
theorem nO {op a b:ByteArray} {us:List ByteArray} (ha:us[0]?=some a) (hb:us[us.length - 1]?=some b) (hl:us.length≤9223372036854775807):Cn op us.length us=some (QS op a b (∀ u∈us,u=a)):=by
 have h0:0 < us.length:=(List.getElem?_eq_some_iff.1 ha).1
 have hk:L9 us.length ((0:Nat):Int)=some 0:=by unfold L9;rw [if_pos (by omega)];rfl
 have hk2:L9 us.length (RV ((us.length:Nat):Int) 1)=some (us.length - 1):=by
   rw [ML (by omega)]
   unfold L9
   rw [if_pos (by omega)]
   congr 1
   omega
 rw [Cn,hk,hk2]
 simp only [Option.bind_some,ha,hb,Ze ha hl,Sh,B8,Bo]
 unfold QS
 simp only [Pw]
noncomputable def Ic (op:ByteArray) (us:List ByteArray):ByteArray:=QS op (us.headD eS) (us.getLastD eS) (∀ u∈us,u=us.headD eS)
theorem bB {op:ByteArray} {us:List ByteArray} (h0:us≠[]) (hl:us.length≤9223372036854775807):Cn op us.length us=some (Ic op us):=by
 cases us with
 | nil=>exact absurd rfl h0
 | cons a l =>
   refine nO (a:=a) (b:=(a::l).getLastD eS) rfl ?_ hl
   rw [List.getLastD_cons,← List.getLast?_eq_getElem?,List.getLast?_cons,List.getLastD_eq_getLast?]
def Lq (e at_:Int) (ds:List Dg):List Dg:=if ds.length < 20 then ds++[⟨e,at_⟩] else ds
theorem S7 (e at_:Int) (ds:List Dg):Ao e at_ ds=some ((),Lq e at_ ds):=by
 rw [Ao,EH,Bo]
 unfold Lq
 by_cases h:ds.length < 20
 · rw [Ag (by omega),if_pos h,So (by omega)]
 · rw [Ad (by omega),if_neg h]
noncomputable def ES (s:Sc) (n:Nd) (us:List ByteArray):ByteArray :=
 AQ (n.kind=11) n.unit (AQ (n.kind=12) ((s.facts.get n.name).getD eS) (AQ (n.kind=13) ((s.lines.get ((s.Ai.get n.n).getD eS)).getD eS) (AQ (n.kind=14) Bj
   (AQ (n.kind=15) (Ic Iq us) (AQ (n.kind=16) (Ic n.name us) (AQ (n.kind=17) (Ic KK us) (AQ (n.kind=18) (AQ (aJ (us.headD eS)) (us.headD eS) eS) eS)))))))
noncomputable def Of (n:Nd):Int:=AQ (n.kind=12) 91 (AQ (n.kind=13) 91 11)
noncomputable def bM (s:Sc) (n:Nd) (r:List ByteArray×List Dg):ByteArray×List Dg :=
 AQ (∀ u∈r.1,u≠eS) (AQ (ES s n r.1=eS) (ES s n r.1,Lq (Of n) n.att r.2) (ES s n r.1,r.2)) (eS,r.2)
mutual
noncomputable def C4 (s:Sc):Nd→List Dg→ByteArray×List Dg
 | ⟨kind,name,unit,n,fr,to,known,tab,kids,att⟩,ds=>bM s ⟨kind,name,unit,n,fr,to,known,tab,kids,att⟩ (Dq s kids ds)
noncomputable def Dq (s:Sc):List Nd→List Dg→List ByteArray×List Dg
 | [],ds=>([],ds)
 | k::ks,ds=>((C4 s k ds).1::(Dq s ks (C4 s k ds).2).1,(Dq s ks (C4 s k ds).2).2)
end
theorem Q6 (s:Sc) (n:Nd) (ds:List Dg):C4 s n ds=bM s n (Dq s n.kids ds):=by cases n;rw [C4]
theorem N8 (s:Sc):∀ (l:List Nd) (ds:List Dg),(Dq s l ds).1.length=l.length
 | [],_=>by rw [Dq];rfl
 | k::l,ds=>by rw [Dq];simp [N8 s l]
theorem Q5 {s:Sc} {g:Sc→Nd→List Dg→Option (ByteArray×List Dg)}:∀ {l:List Nd} {done:List ByteArray} {w:Prop} {ds:List Dg},(∀ k∈l,∀ ds,g s k ds=some (C4 s k ds)) →
   AL (fun i y x=>Cj g s i y x.1 x.2.1 x.2.2) (fun x=>(x.1,x.2.1,x.2.2)) l done.length (mb w,done++List.replicate l.length eS,ds)=some (.inl (mb (w∧∀ u∈(Dq s l ds).1,u≠eS),done++(Dq s l ds).1,(Dq s l ds).2))
 | [],done,w,ds,_=>by
   rw [AL,Dq]
   simp
 | k::l,done,w,ds,h=>by
   rw [AL,Cj,h k (by simp)]
   have hlt:done.length < (done++List.replicate (k::l).length eS).length:=by simp
   have hx:(done++List.replicate (k::l).length eS)[done.length]?=some eS:=by
     rw [List.getElem?_append_right (Nat.le_refl _)];simp
   have hset:(done++List.replicate (k::l).length eS).set done.length (C4 s k ds).1=(done++[(C4 s k ds).1])++List.replicate l.length eS:=by
     rw [List.set_append_right _ _ (Nat.le_refl _)]
     simp [List.replicate_succ]
   have hg:((done++[(C4 s k ds).1])++List.replicate l.length eS)[done.length]?=some (C4 s k ds).1:=by
     rw [List.append_assoc,List.getElem?_append_right (Nat.le_refl _)];simp
   have ih:=fun w'=>Q5 (s:=s) (g:=g) (l:=l) (done:=done++[(C4 s k ds).1]) (w:=w') (ds:=(C4 s k ds).2) fun k' hk'=>h k' (by simp [hk'])
   simp only [List.length_append,List.length_cons,List.length_nil,Nat.zero_add] at ih
   simp only [Option.bind_some,hx,hset,hg,B8,Bo]
   rw [Dq]
   have fin:∀ w',(w'↔w∧(C4 s k ds).1≠eS)→(Gj (AL (fun i y x=>Cj g s i y x.1 x.2.1 x.2.2) (fun x=>(x.1,x.2.1,x.2.2)) l (done.length+1)) (.nx (mb w',done++[(C4 s k ds).1]++List.replicate l.length eS,(C4 s k ds).2)))=some (.inl (mb (w∧∀ u∈(C4 s k ds).1::(Dq s l (C4 s k ds).2).1,u≠eS),done++((C4 s k ds).1::(Dq s l (C4 s k ds).2).1),(Dq s l (C4 s k ds).2).2)):=by
     intro w' hw
     show AL _ _ l (done.length+1) _=_
     rw [ih w']
     congr 2
     refine Prod.ext (FC ?_) (Prod.ext (by simp) rfl)
     simp only [List.mem_cons,forall_eq_or_imp,hw]
     exact and_assoc
   by_cases hw:w
   · rw [Ag hw]
     by_cases hu:(C4 s k ds).1=eS
     · rw [Ag hu,uJ]
       exact fin False ⟨fun q=>q.elim,fun q=>q.2 hu⟩
     · rw [Ad hu,iF]
       exact fin True ⟨fun _=>⟨hw,hu⟩,fun _=>trivial⟩
   · rw [Ad hw,uJ]
     exact fin False ⟨fun q=>q.elim,fun q=>hw q.1⟩
section
variable {s:Sc} {n:Nd} {us:List ByteArray}
theorem u11 (h:n.kind=11):ES s n us=n.unit:=by unfold ES;rw [Ag h]
theorem u12 (h:n.kind=12):ES s n us=(s.facts.get n.name).getD eS:=by unfold ES;rw [Ad (by omega),Ag h]
theorem u13 (h:n.kind=13):ES s n us=(s.lines.get ((s.Ai.get n.n).getD eS)).getD eS:=by unfold ES;rw [Ad (by omega),Ad (by omega),Ag h]
theorem u14 (h:n.kind=14):ES s n us=Bj:=by unfold ES;rw [Ad (by omega),Ad (by omega),Ad (by omega),Ag h]
theorem u15 (h:n.kind=15):ES s n us=Ic Iq us:=by unfold ES;rw [Ad (by omega),Ad (by omega),Ad (by omega),Ad (by omega),Ag h]
theorem u16 (h:n.kind=16):ES s n us=Ic n.name us:=by unfold ES;rw [Ad (by omega),Ad (by omega),Ad (by omega),Ad (by omega),Ad (by omega),Ag h]
theorem u17 (h:n.kind=17):ES s n us=Ic KK us:=by unfold ES;rw [Ad (by omega),Ad (by omega),Ad (by omega),Ad (by omega),Ad (by omega),Ad (by omega),Ag h]
theorem u18 (h:n.kind=18):ES s n us=AQ (aJ (us.headD eS)) (us.headD eS) eS:=by unfold ES;rw [Ad (by omega),Ad (by omega),Ad (by omega),Ad (by omega),Ad (by omega),Ad (by omega),Ad (by omega),Ag h]
theorem rQ (h:n.kind=12∨n.kind=13):Of n=91:=by
 unfold Of
 by_cases e:n.kind=12
 · rw [Ag e]
 · rw [Ad e,Ag (h.resolve_left e)]
theorem WU (h1:n.kind≠12) (h2:n.kind≠13):Of n=11:=by unfold Of;rw [Ad h1,Ad h2]
end
theorem rG {n:Nd} (h:My n) (hk:n.kind=15∨n.kind=16∨n.kind=17∨n.kind=18):0 < n.kids.length:=by
 rcases hk with e | e | e | e
 · have:=((cP e).1 h).1;omega
 · have:=((gK e).1 h).2.1;omega
 · have:=((eP e).1 h).2.2;omega
 · have:=((eA e).1 h).2.2;omega
theorem bP:∀ (q:Nat) (s:Sc) (n:Nd) (ds:List Dg),KH n→Ef n≤q→Ef n≤2000→Bs q s n ds=some (C4 s n ds):=by
 intro q
 induction q with
 | zero=>intro s n ds _ h;have:=Dz n;omega
 | succ q ih =>
 intro s n ds he hq h2
 obtain ⟨hQ,hks⟩:=(Nb n).1 he
 have hsz:=Dz n
 have hkl:=J7 n.kids
 rw [Bs,DZ,Q6]
 have hl:=N8 s n.kids ds
 have hf:=Q5 (s:=s) (g:=Bs q) (l:=n.kids) (done:=[]) (w:=True) (ds:=ds) fun k hk ds'=>ih s k ds' (hks k hk) (by have:=FK hk;omega) (by have:=FK hk;omega)
 simp only [List.nil_append,List.length_nil,true_and,← iF] at hf
 unfold bA
 rw [if_pos (by omega),DJ (by omega),List.drop_zero,hf]
 show cond (mb (∀ u∈(Dq s n.kids ds).1,u≠eS)) _ _=_
 unfold bM
 generalize hr:Dq s n.kids ds=r at *
 obtain ⟨us,ds2⟩:=r
 dsimp only at hl ⊢
 rw [← hl]
 simp only [Bo,Bu,B8,S7,Sh]
 rw [Pw]
 congr 1
 rw [Pw]
 have hne:=fun hk=>rG hQ hk
 have hul:us.length≤9223372036854775807:=by omega
 have hop:∀ op,0 < n.kids.length→Cn op us.length us=some (Ic op us):=fun op h=>bB (fun e=>by rw [e] at hl;simp at hl;omega) hul
 rcases OG hQ with k | k | k | k | k | k | k | k
 · rw [Ag k,u11 k,WU (by omega) (by omega)];rfl
 · rw [Ad (by omega),Ag k,u12 k,rQ (.inl k)];rfl
 · rw [Ad (by omega),Ad (by omega),Ag k,u13 k,rQ (.inr k)];rfl
 · rw [Ad (by omega),Ad (by omega),Ad (by omega),Ag k,u14 k,WU (by omega) (by omega)];rfl
 · rw [Ad (by omega),Ad (by omega),Ad (by omega),Ad (by omega),Ag k,u15 k,WU (by omega) (by omega),hop Iq (hne (by omega))];rfl
 · rw [Ad (by omega),Ad (by omega),Ad (by omega),Ad (by omega),Ad (by omega),Ag k,u16 k,WU (by omega) (by omega),hop n.name (hne (by omega))];rfl
 · rw [Ad (by omega),Ad (by omega),Ad (by omega),Ad (by omega),Ad (by omega),Ad (by omega),Ag k,u17 k,WU (by omega) (by omega),hop KK (hne (by omega))];rfl
 · rw [Ad (by omega),Ad (by omega),Ad (by omega),Ad (by omega),Ad (by omega),Ad (by omega),Ad (by omega),Ag k,u18 k,WU (by omega) (by omega)]
   have h0:=hne (by omega)
   cases us with
   | nil=>simp at hl;omega
   | cons a l =>
   have hk0:L9 (a::l).length ((0:Nat):Int)=some 0:=by unfold L9;rw [if_pos (by simp only [List.length_cons];omega)];rfl
   rw [hk0]
   simp only [Option.bind_some,List.getElem?_cons_zero,List.headD_cons,Bo]
   by_cases hc:aJ a
   · rw [Ag hc,Ag hc]
   · rw [Ad hc,Ad hc,Ag trivial,Ag rfl]
theorem Vq {s:Sc} {n:Nd} {ds:List Dg} (he:KH n) (h:Ef n≤2000):C9 s n ds=some (C4 s n ds) :=
 Nk (Ef n) fun q hq=>bP q s n ds he hq h
end Mo
end Go.Proofs.YtkfplcngmiljaaaGreatDoor
namespace Go.Proofs.YtkfplcngmiljaaaGreatDoor
open AI Go
namespace Mo
set_option maxRecDepth 100000
set_option maxHeartbeats 4000000
noncomputable def fU (k:Int):List Nd→ByteArray→Option ByteArray
 | [],_=>none
 | a::l,x=>AQ (a.kind=k∧a.name=x) (some a.unit) (fU k l x)
noncomputable def fA:List Nd→Int→Option ByteArray
 | [],_=>none
 | a::l,z=>AQ (a.kind=4∧a.n=z) (some a.name) (fA l z)
abbrev cM:Type:=Mm ByteArray ByteArray×Mm ByteArray ByteArray×Mm Int ByteArray
noncomputable def J6 (a:Nd) (x:cM):cM :=
 AQ (a.kind=2) (AQ ((x.1.get a.name).isSome=true) x (x.1.set a.name a.unit,x.2.1,x.2.2))
   (AQ (a.kind=3) (AQ ((x.2.1.get a.name).isSome=true) x (x.1,x.2.1.set a.name a.unit,x.2.2))
     (AQ (a.kind=4) (AQ ((x.2.2.get a.n).isSome=true) x (x.1,x.2.1,x.2.2.set a.n a.name)) x))
noncomputable def RI:List Nd→cM→cM
 | [],x=>x
 | a::l,x=>RI l (J6 a x)
noncomputable def Rr (n:Nd):Sc:=⟨(RI n.kids (Mm.nil,Mm.nil,Mm.nil)).1,(RI n.kids (Mm.nil,Mm.nil,Mm.nil)).2.1,(RI n.kids (Mm.nil,Mm.nil,Mm.nil)).2.2⟩
theorem TL:∀ (l:List Nd) (i:Nat) (x:cM),AL (fun i y x=>Dt i y x.1 x.2.1 x.2.2) (fun x=>(x.1,x.2.1,x.2.2)) l i x=(some (.inl (RI l x)):Option (cM⊕Sc))
 | [],_,_=>rfl
 | a::l,i,x=>by
   rw [AL,Dt,RI]
   have e:∀ x',(some (Lp.nx x'):Option (Lp cM cM Sc)).bind (Gj (AL (fun i y x=>Dt i y x.1 x.2.1 x.2.2) (fun x=>(x.1,x.2.1,x.2.2)) l (i+1)))=some (.inl (RI l x')):=fun x'=>TL l (i+1) x'
   simp only [Bu,Bo,rF,Gu]
   unfold J6
   by_cases k2:a.kind=2
   · rw [Ag k2,Ag k2]
     by_cases h:(x.1.get a.name).isSome=true
     · rw [Ag h,Ag h];exact e _
     · rw [Ad h,Ad h];exact e _
   rw [Ad k2,Ad k2]
   by_cases k3:a.kind=3
   · rw [Ag k3,Ag k3]
     by_cases h:(x.2.1.get a.name).isSome=true
     · rw [Ag h,Ag h];exact e _
     · rw [Ad h,Ad h];exact e _
   rw [Ad k3,Ad k3]
   by_cases k4:a.kind=4
   · rw [Ag k4,Ag k4]
     by_cases h:(x.2.2.get a.n).isSome=true
     · rw [Ag h,Ag h];exact e _
     · rw [Ad h,Ad h];exact e _
   rw [Ad k4,Ad k4]
   exact e _
theorem VE {n:Nd} (hok:DC n):DM n=some (Rr n):=by
 obtain ⟨hps,hkl,hks⟩:=Fa hok
 rw [DM,DJ hkl,List.drop_zero,TL]
 rfl
theorem OF:∀ (l:List Nd) (x:cM),(∀ y,(RI l x).1.get y=(x.1.get y).or (fU 2 l y))∧(∀ y,(RI l x).2.1.get y=(x.2.1.get y).or (fU 3 l y))∧∀ z,(RI l x).2.2.get z=(x.2.2.get z).or (fA l z)
 | [],x=>⟨fun y=>by simp [RI,fU],fun y=>by simp [RI,fU],fun z=>by simp [RI,fA]⟩
 | a::l,x=>by
   obtain ⟨h1,h2,h3⟩:=OF l (J6 a x)
   have s1:∀ y,(J6 a x).1.get y=(x.1.get y).or (AQ (a.kind=2∧a.name=y) (some a.unit) none):=by
     intro y
     unfold J6
     by_cases k2:a.kind=2
     · rw [Ag k2]
       by_cases h:(x.1.get a.name).isSome=true
       · rw [Ag h]
         by_cases e:a.name=y
         · subst e
           obtain ⟨v,hv⟩:=Option.isSome_iff_exists.1 h
           rw [hv];rfl
         · rw [Ad (show ¬ (a.kind=2∧a.name=y) from fun q=>e q.2)];simp
       · rw [Ad h]
         show (x.1.set a.name a.unit).get y=_
         rw [Mm.FX]
         by_cases e:y=a.name
         · subst e
           rw [if_pos rfl,Ag ⟨k2,rfl⟩]
           have:x.1.get a.name=none:=by simpa using h
           rw [this];rfl
         · rw [if_neg e,Ad (show ¬ (a.kind=2∧a.name=y) from fun q=>e q.2.symm)];simp
     · rw [Ad k2,Ad (show ¬ (a.kind=2∧a.name=y) from fun q=>k2 q.1)]
       by_cases k3:a.kind=3
       · rw [Ag k3]
         by_cases h:(x.2.1.get a.name).isSome=true
         · rw [Ag h];simp
         · rw [Ad h];simp
       · rw [Ad k3]
         by_cases k4:a.kind=4
         · rw [Ag k4]
           by_cases h:(x.2.2.get a.n).isSome=true
           · rw [Ag h];simp
           · rw [Ad h];simp
         · rw [Ad k4];simp
   have s2:∀ y,(J6 a x).2.1.get y=(x.2.1.get y).or (AQ (a.kind=3∧a.name=y) (some a.unit) none):=by
     intro y
     unfold J6
     by_cases k2:a.kind=2
     · rw [Ag k2,Ad (show ¬ (a.kind=3∧a.name=y) from fun q=>by omega)]
       by_cases h:(x.1.get a.name).isSome=true
       · rw [Ag h];simp
       · rw [Ad h];simp
     · rw [Ad k2]
       by_cases k3:a.kind=3
       · rw [Ag k3]
         by_cases h:(x.2.1.get a.name).isSome=true
         · rw [Ag h]
           by_cases e:a.name=y
           · subst e
             obtain ⟨v,hv⟩:=Option.isSome_iff_exists.1 h
             rw [hv];rfl
           · rw [Ad (show ¬ (a.kind=3∧a.name=y) from fun q=>e q.2)];simp
         · rw [Ad h]
           show (x.2.1.set a.name a.unit).get y=_
           rw [Mm.FX]
           by_cases e:y=a.name
           · subst e
             rw [if_pos rfl,Ag ⟨k3,rfl⟩]
             have:x.2.1.get a.name=none:=by simpa using h
             rw [this];rfl
           · rw [if_neg e,Ad (show ¬ (a.kind=3∧a.name=y) from fun q=>e q.2.symm)];simp
       · rw [Ad k3,Ad (show ¬ (a.kind=3∧a.name=y) from fun q=>k3 q.1)]
         by_cases k4:a.kind=4
         · rw [Ag k4]
           by_cases h:(x.2.2.get a.n).isSome=true
           · rw [Ag h];simp
           · rw [Ad h];simp
         · rw [Ad k4];simp
   have s3:∀ z,(J6 a x).2.2.get z=(x.2.2.get z).or (AQ (a.kind=4∧a.n=z) (some a.name) none):=by
     intro z
     unfold J6
     by_cases k2:a.kind=2
     · rw [Ag k2,Ad (show ¬ (a.kind=4∧a.n=z) from fun q=>by omega)]
       by_cases h:(x.1.get a.name).isSome=true
       · rw [Ag h];simp
       · rw [Ad h];simp
     · rw [Ad k2]
       by_cases k3:a.kind=3
       · rw [Ag k3,Ad (show ¬ (a.kind=4∧a.n=z) from fun q=>by omega)]
         by_cases h:(x.2.1.get a.name).isSome=true
         · rw [Ag h];simp
         · rw [Ad h];simp
       · rw [Ad k3]
         by_cases k4:a.kind=4
         · rw [Ag k4]
           by_cases h:(x.2.2.get a.n).isSome=true
           · rw [Ag h]
             by_cases e:a.n=z
             · subst e
               obtain ⟨v,hv⟩:=Option.isSome_iff_exists.1 h
               rw [hv];rfl
             · rw [Ad (show ¬ (a.kind=4∧a.n=z) from fun q=>e q.2)];simp
           · rw [Ad h]
             show (x.2.2.set a.n a.name).get z=_
             rw [Mm.FX]
             by_cases e:z=a.n
             · subst e
               rw [if_pos rfl,Ag ⟨k4,rfl⟩]
               have:x.2.2.get a.n=none:=by simpa using h
               rw [this];rfl
             · rw [if_neg e,Ad (show ¬ (a.kind=4∧a.n=z) from fun q=>e q.2.symm)];simp
         · rw [Ad k4,Ad (show ¬ (a.kind=4∧a.n=z) from fun q=>k4 q.1)];simp
   have or_if:∀ {p:Prop} {u:ByteArray} {o f:Option ByteArray},(o.or (AQ p (some u) none)).or f=o.or (AQ p (some u) f):=by
     intro p u o f
     by_cases h:p
     · rw [Ag h,Ag h];cases o<;>rfl
     · rw [Ad h,Ad h];cases o<;>rfl
   refine ⟨fun y=>?_,fun y=>?_,fun z=>?_⟩
   · rw [RI,h1,s1,fU,or_if]
   · rw [RI,h2,s2,fU,or_if]
   · rw [RI,h3,s3,fA,or_if]
theorem X3 (n:Nd) (x:ByteArray):(Rr n).facts.get x=fU 2 n.kids x:=by
 have:=(OF n.kids (Mm.nil,Mm.nil,Mm.nil)).1 x
 exact this.trans (by rw [Mm.get_nil];rfl)
theorem P8 (n:Nd) (x:ByteArray):(Rr n).lines.get x=fU 3 n.kids x:=by
 have:=(OF n.kids (Mm.nil,Mm.nil,Mm.nil)).2.1 x
 exact this.trans (by rw [Mm.get_nil];rfl)
theorem Sz (n:Nd) (z:Int):(Rr n).Ai.get z=fA n.kids z:=by
 have:=(OF n.kids (Mm.nil,Mm.nil,Mm.nil)).2.2 z
 exact this.trans (by rw [Mm.get_nil];rfl)
noncomputable def NJ (src e:Nd):ByteArray×List Dg:=AQ ((src.kind=1∧e.kind≠1)∧N7 src∧N7 e) (C4 (Rr src) e []) (eS,[⟨1,e.att⟩])
theorem ZJ {e:Nd} (h:N7 e) (hk:e.kind≠1):KH e∧Ef e≤2000∧Lv e≤40:=by
 obtain ⟨a | a,b⟩:=h
 · exact absurd a.1 hk
 · exact ⟨a.2,b⟩
theorem fV {src e:Nd} (hs:DC src) (he:DC e):Gb src e=some (NJ src e):=by
 rw [Gb,Sa hs,Sa he,VE hs]
 simp only [Option.bind_some,Bu,Bo]
 unfold NJ
 by_cases k1:src.kind=1
 rotate_left
 · rw [Ad k1,Ad fun q=>k1 q.1.1]
 rw [Ag k1]
 by_cases k2:e.kind=1
 · rw [Ag k2,Ad fun q=>q.1.2 k2]
 rw [Ad k2]
 by_cases v1:N7 src
 rotate_left
 · rw [Ad v1,Ad fun q=>v1 q.2.1]
 rw [Ag v1]
 by_cases v2:N7 e
 rotate_left
 · rw [Ad v2,Ad fun q=>v2 q.2.2]
 rw [Ag v2,Ag ⟨⟨k1,k2⟩,v1,v2⟩]
 obtain ⟨a,b,_⟩:=ZJ v2 k2
 rw [show Dv=some () from rfl]
 simp only [Option.bind_some]
 rw [Vq a b]
 rfl
theorem TN:∀ q:Nat,∀ n l,Le (BE q n l) (BE (q+1) n l)
 | 0=>fun _ _ _ h=>nomatch h
 | q+1=>fun n l=>by
   have ih:=TN q
   rw [BE,BE,Ei,Ei]
   refine OI (Le.refl _) (Hz (ZI (SN (fun i y x=>?_) _ _ _)) fun _=>Le.refl _)
   rw [Dl,Dl]
   exact OI (Hz (ih _ _) fun _=>Le.refl _) (Le.refl _)
theorem eJ:∀ (q:Nat) (n:Nd) (l:Int),DC n→Ef n≤q→∃ y,BE q n l=some y:=by
 intro q
 induction q with
 | zero=>intro n _ _ h;have:=Dz n;omega
 | succ q ih =>
   intro n l hok hq
   obtain ⟨hps,hkl,hks⟩:=Fa hok
   have hsz:=Dz n
   rw [BE,Ei]
   cases KL l 0 with
   | true=>exact ⟨_,rfl⟩
   | false =>
     rw [cond_false,DJ hkl,List.drop_zero]
     have key:∀ (m:List Nd),(∀ k∈m,k∈n.kids)→∀ (i:Nat) (x:Int),∃ y,(AL (ρ:=Int) (fun i y x=>Dl (BE q) l i y x) (fun x=>x) m i x)=some y:=by
       intro m
       induction m with
       | nil=>intro _ i x;exact ⟨_,rfl⟩
       | cons a m ihm =>
         intro hm i x
         rw [AL,Dl]
         cases F4 x l with
         | false=>exact ⟨_,rfl⟩
         | true =>
           obtain ⟨y,hy⟩:=ih a (RV l x) (hks a (hm a (by simp))) (by have:=FK (hm a (by simp));omega)
           rw [cond_true,hy]
           exact ihm (fun k hk=>hm k (by simp [hk])) _ _
     obtain ⟨y,hy⟩:=key n.kids (fun _ h=>h) 0 1
     rw [hy]
     cases y<;>exact ⟨_,rfl⟩
theorem hP {n:Nd} (hok:DC n) (l:Int):∃ b,Ee n l=some b:=by
 obtain ⟨y,hy⟩:=eJ (Ef n) n (BH l 1) hok (Nat.le_refl _)
 have:HU n (BH l 1)=some y:=UJ (fun q=>TN q _ _) hy
 rw [Ee,this]
 simp only [Option.bind_some]
 cases KL y l<;>exact ⟨_,rfl⟩
theorem qK {a b:Nd} (ha:DC a) (hb:DC b):∃ y,Ig a b=some y:=by
 obtain ⟨x,hx⟩:=hP ha 400
 obtain ⟨y,hy⟩:=hP hb 400
 rw [Ig,hx,hy]
 cases x<;>exact ⟨_,rfl⟩
end Mo
end Go.Proofs.YtkfplcngmiljaaaGreatDoor
namespace Go.Proofs.YtkfplcngmiljaaaGreatDoor
open AI Go
namespace Mo
set_option maxRecDepth 100000
set_option maxHeartbeats 4000000
def cap (ds r:List Dg):List Dg:=(ds++r).take 20
theorem DF (ds a b:List Dg):cap (cap ds a) b=cap ds (a++b):=by
 unfold cap
 rw [← List.append_assoc]
 generalize ds++a=l
 rw [List.take_append,List.take_append,List.take_take,Nat.min_self,List.length_take]
 by_cases h:l.length≤20
 · rw [Nat.min_eq_right h]
 · rw [Nat.min_eq_left (by omega),show 20 - 20=0 by omega,show 20 - l.length=0 by omega]
theorem Dr {ds:List Dg} (h:ds.length≤20):cap ds []=ds:=by
 unfold cap
 rw [List.append_nil,List.take_of_length_le h]
theorem C5 (ds r:List Dg):(cap ds r).length≤20:=by unfold cap;rw [List.length_take];omega
theorem L6 {ds:List Dg} (h:ds.length≤20) (e at_:Int):Lq e at_ ds=cap ds [⟨e,at_⟩]:=by
 unfold Lq cap
 by_cases h2:ds.length < 20
 · rw [if_pos h2,List.take_of_length_le (by simp;omega)]
 · rw [if_neg h2,List.take_append,List.take_of_length_le h,show 20 - ds.length=0 by omega]
   simp
noncomputable def Lg (F:ByteArray→ByteArray) (A:Int→ByteArray) (n:Nd) (us:List ByteArray):ByteArray :=
 AQ (n.kind=11) n.unit (AQ (n.kind=12) (F n.name) (AQ (n.kind=13) (A n.n) (AQ (n.kind=14) Bj
   (AQ (n.kind=15) (Ic Iq us) (AQ (n.kind=16) (Ic n.name us) (AQ (n.kind=17) (Ic KK us) (AQ (n.kind=18) (AQ (aJ (us.headD eS)) (us.headD eS) eS) eS)))))))
noncomputable def Z6 (F:ByteArray→ByteArray) (A:Int→ByteArray) (n:Nd) (r:List ByteArray×List Dg):ByteArray×List Dg :=
 AQ (∀ u∈r.1,u≠eS) (AQ (Lg F A n r.1=eS) (Lg F A n r.1,r.2++[⟨Of n,n.att⟩]) (Lg F A n r.1,r.2)) (eS,r.2)
mutual
noncomputable def Qj (F:ByteArray→ByteArray) (A:Int→ByteArray):Nd→ByteArray×List Dg
 | ⟨kind,name,unit,n,fr,to,known,tab,kids,att⟩=>Z6 F A ⟨kind,name,unit,n,fr,to,known,tab,kids,att⟩ (NC F A kids)
noncomputable def NC (F:ByteArray→ByteArray) (A:Int→ByteArray):List Nd→List ByteArray×List Dg
 | []=>([],[])
 | k::ks=>((Qj F A k).1::(NC F A ks).1,(Qj F A k).2++(NC F A ks).2)
end
theorem Yt (F:ByteArray→ByteArray) (A:Int→ByteArray) (n:Nd):Qj F A n=Z6 F A n (NC F A n.kids):=by cases n;rw [Qj]
theorem Tv (F:ByteArray→ByteArray) (A:Int→ByteArray):∀ l:List Nd,NC F A l=(l.map fun k=>(Qj F A k).1,l.flatMap fun k=>(Qj F A k).2)
 | []=>by rw [NC];rfl
 | k::l=>by rw [NC,Tv F A l];rfl
noncomputable def FS (s:Sc) (x:ByteArray):ByteArray:=(s.facts.get x).getD eS
noncomputable def Ug (s:Sc) (z:Int):ByteArray:=(s.lines.get ((s.Ai.get z).getD eS)).getD eS
theorem K1 {s:Sc}:∀ {l:List Nd},(∀ k∈l,∀ ds:List Dg,ds.length≤20→C4 s k ds=((Qj (FS s) (Ug s) k).1,cap ds (Qj (FS s) (Ug s) k).2))→∀ ds:List Dg,ds.length≤20→Dq s l ds=((NC (FS s) (Ug s) l).1,cap ds (NC (FS s) (Ug s) l).2)
 | [],_,ds,h=>by rw [Dq,NC,Dr h]
 | a::l,hk,ds,h=>by
   rw [Dq,NC,hk a (by simp) ds h]
   dsimp only
   rw [K1 (fun k h'=>hk k (by simp [h'])) _ (C5 _ _),DF]
theorem T5 (s:Sc):∀ (m:Nat) (n:Nd),Ef n≤m→∀ ds:List Dg,ds.length≤20→C4 s n ds=((Qj (FS s) (Ug s) n).1,cap ds (Qj (FS s) (Ug s) n).2):=by
 intro m
 induction m with
 | zero=>intro n h;have:=Dz n;omega
 | succ m ih =>
   intro n hn ds hd
   have hsz:=Dz n
   rw [Q6,Yt,K1 (fun k hk=>ih k (by have:=FK hk;omega)) ds hd]
   unfold bM Z6
   show AQ _ (AQ (Lg (FS s) (Ug s) n _=eS) (Lg (FS s) (Ug s) n _,_) (Lg (FS s) (Ug s) n _,_)) _=_
   by_cases hu:∀ u∈(NC (FS s) (Ug s) n.kids).1,u≠eS
   · rw [Ag hu,Ag hu]
     by_cases hU:Lg (FS s) (Ug s) n (NC (FS s) (Ug s) n.kids).1=eS
     · rw [Ag hU,Ag hU]
       dsimp only
       rw [L6 (C5 _ _),DF]
     · rw [Ad hU,Ad hU]
   · rw [Ad hu,Ad hu]
theorem Wf (s:Sc) (n:Nd) {ds:List Dg} (h:ds.length≤20):C4 s n ds=((Qj (FS s) (Ug s) n).1,cap ds (Qj (FS s) (Ug s) n).2):=T5 s (Ef n) n (Nat.le_refl _) ds h
noncomputable def fact (src:Nd) (x:ByteArray):ByteArray:=(fU 2 src.kids x).getD eS
noncomputable def line (src:Nd) (x:ByteArray):ByteArray:=(fU 3 src.kids x).getD eS
noncomputable def lU (src:Nd) (z:Int):ByteArray:=line src ((fA src.kids z).getD eS)
theorem jT (src:Nd):FS (Rr src)=fact src:=funext fun x=>by unfold FS fact;rw [X3]
theorem lZ (src:Nd):Ug (Rr src)=lU src:=funext fun z=>by unfold Ug lU line;rw [P8,Sz]
noncomputable def Im (src n:Nd):ByteArray×List Dg:=Qj (fact src) (lU src) n
theorem RD (src n:Nd) {ds:List Dg} (h:ds.length≤20):C4 (Rr src) n ds=((Im src n).1,cap ds (Im src n).2):=by
 rw [Wf _ _ h,jT,lZ];rfl
theorem QI (src e:Nd):NJ src e=AQ ((src.kind=1∧e.kind≠1)∧N7 src∧N7 e) ((Im src e).1,cap [] (Im src e).2) (eS,[⟨1,e.att⟩]):=by
 unfold NJ
 rw [RD src e (by simp)]
noncomputable def IA (before:List Nd) (a:Nd):List Dg :=
 AQ (a.kind=2∨a.kind=3) (AQ (∃ b∈before,b.kind=a.kind∧b.name=a.name) [⟨5,a.att⟩] (AQ (32≤Bg a.kind before) [⟨2,a.att⟩] (AQ (a.kind=3∧(a.unit=AO∨(a.n≠4∧¬ aJ a.unit))) [⟨11,a.att⟩] []))) []
noncomputable def Ga:List Nd→List Nd→List Dg
 | _,[]=>[]
 | b,a::l=>IA b a++Ga (b++[a]) l
noncomputable def GX (src:Nd) (c:Nat) (a:Nd):List Dg :=
 AQ (60≤c) [⟨2,a.att⟩] (AQ (fU 3 src.kids a.name=none) [⟨91,a.att⟩] (AQ ((fA src.kids a.n).getD eS≠a.name) [⟨101,a.att⟩] []))
noncomputable def Ff (src a k:Nd):List Dg:=AQ (k.n=a.n) [⟨101,k.att⟩] (AQ (fA src.kids k.n=none) [⟨91,k.att⟩] [])
noncomputable def TC (src:Nd) (w:ByteArray) (k:Nd):List Dg:=(Im src k).2++AQ ((Im src k).1≠eS∧w≠eS∧(Im src k).1≠w) [⟨11,k.att⟩] []
noncomputable def Hx (src a x:Nd):List Dg :=
 AQ (x.kind=7) (x.kids.flatMap (Ff src a)) (x.kids.flatMap (TC src (AQ (x.kind=6) AO (line src a.name))))
noncomputable def nN (src:Nd) (c:Nat) (a:Nd):List Dg:=AQ (a.kind=4) (GX src c a++a.kids.tail.flatMap (Hx src a)) []
noncomputable def LN (src:Nd):Nat→List Nd→List Dg
 | _,[]=>[]
 | c,a::l=>nN src c a++LN src (c+Bg 4 [a]) l
noncomputable def oI (src:Nd):List Dg:=Ga [] src.kids++LN src 0 src.kids
noncomputable def Nu (src:Nd):List Dg:=AQ (src.kind=1∧N7 src) (cap [] (oI src)) [⟨1,0⟩]
theorem Y7 {n:Nd} (h:N7 n) (hk:n.kind=1):Dm n z0∧(∀ k∈n.kids,Gg k)∧Ef n≤2000∧Lv n≤40:=by
 obtain ⟨a | a,b⟩:=h
 · exact ⟨a.2.1,a.2.2,b⟩
 · exact absurd hk a.1
end Mo
end Go.Proofs.YtkfplcngmiljaaaGreatDoor

