/- Part of a proof: see the last text. -/
import Derived.Test.YtnijkdknnmgoeaaGreatCxi
set_option linter.unusedVariables false
set_option linter.unusedSimpArgs false
namespace Go.Proofs.YtnijkdknnmgoeaaGreat
open AI Go
namespace Mo
set_option maxRecDepth 100000
set_option maxHeartbeats 4000000
noncomputable def B47:Code:=AY Tryz.f47
theorem b47:Tryz.f47.body=some B47:=by kernel_rfl
noncomputable def E2   (i0:Nat) (e0:Nd) (w4_0:(List Dc)) (w1_m:(Mm ByteArray Int)) (w4_1:(List Dc)) (w2_m:(Mm ByteArray Int)):Option (Lp ((List Dc)×(Mm ByteArray Int)×(List Dc)×(Mm ByteArray Int)) ((List Dc)×(Mm ByteArray Int)×(List Dc)×(Mm ByteArray Int)) ((List Dc)×(List Dc)×(Mm ByteArray Int)×(Mm ByteArray Int)×(Mm Int Int))):=cond (Bp e0.kind 2) (Lt (w4_0.length+1) (some (.nx ((w4_0++[(⟨e0.name,e0.unit,0⟩:Dc)]),(w1_m.set e0.name ((w4_0.length:Nat):Int)),w4_1,w2_m)))) (cond (Bp e0.kind 3) (Lt (w4_1.length+1) (some (.nx (w4_0,w1_m,(w4_1++[(⟨e0.name,e0.unit,e0.n⟩:Dc)]),(w2_m.set e0.name ((w4_1.length:Nat):Int)))))) (some (.nx (w4_0,w1_m,w4_1,w2_m))))
noncomputable def EZ  (w2_m_4:(Mm ByteArray Int)) (i1:Nat) (e1:Nd) (w3_m:(Mm Int Int)):Option (Lp (Mm Int Int) (Mm Int Int) ((List Dc)×(List Dc)×(Mm ByteArray Int)×(Mm ByteArray Int)×(Mm Int Int))):=cond (Bp e1.kind 4) (some (.nx (w3_m.set e1.n ((w2_m_4.get e1.name).getD 0)))) (some (.nx w3_m))
noncomputable def D7  (source:Nd):Option ((List Dc)×(List Dc)×(Mm ByteArray Int)×(Mm ByteArray Int)×(Mm Int Int)):=(GW source.kids.length (AL (fun i y x=>E2   i y x.1 x.2.1 x.2.2.1 x.2.2.2) (fun x=>(x.1,x.2.1,x.2.2.1,x.2.2.2)) (source.kids.drop 0) 0 ([],(Mm.nil:Mm ByteArray Int),[],(Mm.nil:Mm ByteArray Int)))).bind (GQ (fun ((w4_0_4,w1_m_4,w4_1_4,w2_m_4):((List Dc)×(Mm ByteArray Int)×(List Dc)×(Mm ByteArray Int)))=>(GW source.kids.length (AL (fun i y x=>EZ  w2_m_4 i y x) (fun x=>x) (source.kids.drop 0) 0 (Mm.nil:Mm Int Int))).bind (GQ (fun (w3_m_5:(Mm Int Int))=>some (w4_0_4,w4_1_4,w1_m_4,w2_m_4,w3_m_5)) (fun v=>some v))) (fun v=>some v))
theorem Nm {source:Nd} {y0R:(List Dc)} {y1R:(List Dc)} {y2R:(Mm ByteArray Int)} {y3R:(Mm ByteArray Int)} {y4R:(Mm Int Int)} (hS:Sound P G (.call 47 [.agg (Bo source)] ⟨[],0,[],0⟩ (.ret (.ptr 4 0)) ⟨[(4,.cells [.sl (.row 0 3) y0R.length (rows B7 y0R),.sl (.row 1 3) y1R.length (rows B7 y1R),.sl .full 0 [],.mp 1,.mp 2,.mp 3]),(3,(BA y4R)),(2,(Bz y3R)),(1,(Bz y2R))],5,[(1,y1R.length),(0,y0R.length)],2⟩)) (nx nr:Nat):Cd.ok P G (.callN 47 [.agg (Bo source)] nx nr (.ptr (nx+4) 0) [((nx+4),.cells [.sl (.row (nr+0) 3) y0R.length (rows B7 y0R),.sl (.row (nr+1) 3) y1R.length (rows B7 y1R),.sl .full 0 [],.mp (nx+1),.mp (nx+2),.mp (nx+3)]),((nx+3),(BA y4R)),((nx+2),(Bz y3R)),((nx+1),(Bz y2R))] 5 [((nr+1),y1R.length),((nr+0),y0R.length)] 2) :=
 Yr Hd.Aa hS (AW (Am.Dp source) rfl) (.ptr (by decide)) (.cons (.cells (.cons (.row (by decide) (Bl.AW y0R)) (.cons (.row (by decide) (Bl.AW y1R)) (.cons (.pl (Gx rfl)) (.cons (.mp (by decide)) (.cons (.mp (by decide)) (.cons (.mp (by decide)) .nil))))))) (.cons (BK (fun _=>rfl)) (.cons (BK (fun _=>rfl)) (.cons (BK (fun _=>rfl)) .nil))))
theorem LW {source:Nd} {y0R:(List Dc)} {y1R:(List Dc)} {y2R:(Mm ByteArray Int)} {y3R:(Mm ByteArray Int)} {y4R:(Mm Int Int)} (h:D7 source=some (y0R,y1R,y2R,y3R,y4R)):Sound P G (.call 47 [.agg (Bo source)] ⟨[],0,[],0⟩ (.ret (.ptr 4 0)) ⟨[(4,.cells [.sl (.row 0 3) y0R.length (rows B7 y0R),.sl (.row 1 3) y1R.length (rows B7 y1R),.sl .full 0 [],.mp 1,.mp 2,.mp 3]),(3,(BA y4R)),(2,(Bz y3R)),(1,(Bz y2R))],5,[(1,y1R.length),(0,y0R.length)],2⟩):=by
 unfold D7 at h
 refine YE Hd.mixed (Ta (m:=5) Tryz.func47 b47 ?_)
 revert h
 refine DF (fun Q v=>Iu P G Tryz.f47 5 ⟨[],0,[],0⟩ Q (.ptr 4 0) ⟨[(4,.cells [.sl (.row 0 3) v.1.length (rows B7 v.1),.sl (.row 1 3) v.2.1.length (rows B7 v.2.1),.sl .full 0 [],.mp 1,.mp 2,.mp 3]),(3,(BA v.2.2.2.2)),(2,(Bz v.2.2.2.1)),(1,(Bz v.2.2.1))],5,[(1,v.2.1.length),(0,v.1.length)],2⟩) (fun i0 ((w4_0,w1_m,w4_1,w2_m):((List Dc)×(Mm ByteArray Int)×(List Dc)×(Mm ByteArray Int))) (j0:List Value)=>fr 110 [(1,.ptr 0 0),(3,.ptr 4 0),(14,.sl .lost source.kids.length (Cg source.kids)),(15,.zi ((source.kids.length:Nat):Int)),(16,.zi ((i0:Nat):Int))] [2,17,22,23,52,53,89,94] j0) (fun ((w4_0,w1_m,w4_1,w2_m):((List Dc)×(Mm ByteArray Int)×(List Dc)×(Mm ByteArray Int)))=>⟨[(4,.cells [.sl (.row 0 3) w4_0.length (rows B7 w4_0),.sl (.row 1 3) w4_1.length (rows B7 w4_1),.sl .full 0 [],.mp 1,.mp 2,.mp 3]),(3,(BA (Mm.nil:Mm Int Int))),(2,(Bz w2_m)),(1,(Bz w1_m)),(0,.cells (Bo source))],5,[(1,w4_1.length),(0,w4_0.length)],2⟩) (fun ((w4_0,w1_m,w4_1,w2_m):((List Dc)×(Mm ByteArray Int)×(List Dc)×(Mm ByteArray Int))) (jx:List Value)=>fr 110 [(1,.ptr 0 0),(3,.ptr 4 0)] [2,17,22,23,52,53,89,94] jx) (fun ((w4_0,w1_m,w4_1,w2_m):((List Dc)×(Mm ByteArray Int)×(List Dc)×(Mm ByteArray Int)))=>⟨[(4,.cells [.sl (.row 0 3) w4_0.length (rows B7 w4_0),.sl (.row 1 3) w4_1.length (rows B7 w4_1),.sl .full 0 [],.mp 1,.mp 2,.mp 3]),(3,(BA (Mm.nil:Mm Int Int))),(2,(Bz w2_m)),(1,(Bz w1_m)),(0,.cells (Bo source))],5,[(1,w4_1.length),(0,w4_0.length)],2⟩) [(.pointer none)] (Dq [.b 4 0 3,.b 4 1 3] 0 (sb B47 116) [.code (sb B47 15)] (Ag 300 []) (by kernel_rfl)) ?_ ?_ ?_ (fun v h=>by cases h;exact .outer .body)
 rintro i0 ⟨w4_0,w1_m,w4_1,w2_m⟩ j0 hge hq
 exact B1 (Ag 300 [pb (IJ hge)]) (by kernel_rfl) (hq (js 8 j0 [(1,bF)]))
 rintro i0 e0 ⟨w4_0,w1_m,w4_1,w2_m⟩ j0 r he0 hi0 mi0 k
 show E2   i0 e0 w4_0 w1_m w4_1 w2_m=some r→_
 unfold E2
 refine Ad (fun hb4=>?_) fun hb4=>?_
 refine Kz fun hl2=>?_
 rintro ⟨⟩
 exact Bt Hd.Aa [fq (Am.Bk source.kids)] [bu [.sl (.row 0 3) ((w4_0++[(⟨e0.name,e0.unit,0⟩:Dc)]).length) (rows B7 (w4_0++[(⟨e0.name,e0.unit,0⟩:Dc)])),.sl (.row 1 3) w4_1.length (rows B7 w4_1),.sl .full 0 [],.mp 1,.mp 2,.mp 3] (Av (CC rfl (Aj _ _ (Bl.AW (w4_0++[(⟨e0.name,e0.unit,0⟩:Dc)])))) (Av (CC rfl (Aj _ _ (Bl.AW w4_1))) (Av (Ae _ _ (Gx rfl)) (Av rfl (Av rfl (Av rfl rfl)))))),Bc (Mm.nil:Mm Int Int),Bq w2_m,Bq (w1_m.set e0.name ((w4_0.length:Nat):Int)),bp (Am.pl source)] (Ag 300 [pb (Fk hi0),BT (BQ .lost he0),pb hb4,pz 12,VS (acz w1_m e0.name ((w4_0.length:Nat):Int)),pza,Nk (sE (.row 0 3) w4_0 [(⟨e0.name,e0.unit,0⟩:Dc)] (o:=.full) (n:=1) (ns:=[.zs e0.name,.zs e0.unit,.zi 0]) (Bl.wn [(⟨e0.name,e0.unit,0⟩:Dc)] (.r (.r (.r .nil)))) rfl rfl (by simp) (by simpa using hl2)),pi mi0]) (by kernel_rfl) (k (js 8 j0 [(1,bT),(2,bT),(3,bT)]))
 refine Ad (fun hb5=>?_) fun hb5=>?_
 refine Kz fun hl3=>?_
 rintro ⟨⟩
 exact Bt Hd.Aa [fq (Am.Bk source.kids)] [bu [.sl (.row 0 3) w4_0.length (rows B7 w4_0),.sl (.row 1 3) ((w4_1++[(⟨e0.name,e0.unit,e0.n⟩:Dc)]).length) (rows B7 (w4_1++[(⟨e0.name,e0.unit,e0.n⟩:Dc)])),.sl .full 0 [],.mp 1,.mp 2,.mp 3] (Av (CC rfl (Aj _ _ (Bl.AW w4_0))) (Av (CC rfl (Aj _ _ (Bl.AW (w4_1++[(⟨e0.name,e0.unit,e0.n⟩:Dc)])))) (Av (Ae _ _ (Gx rfl)) (Av rfl (Av rfl (Av rfl rfl)))))),Bc (Mm.nil:Mm Int Int),Bq (w2_m.set e0.name ((w4_1.length:Nat):Int)),Bq w1_m,bp (Am.pl source)] (Ag 300 [pb (Fk hi0),BT (BQ .lost he0),pb hb4,pb hb5,pz 12,VS (acz w2_m e0.name ((w4_1.length:Nat):Int)),pza,Nk (sE (.row 1 3) w4_1 [(⟨e0.name,e0.unit,e0.n⟩:Dc)] (o:=.full) (n:=1) (ns:=[.zs e0.name,.zs e0.unit,.zi e0.n]) (Bl.wn [(⟨e0.name,e0.unit,e0.n⟩:Dc)] (.r (.r (.r .nil)))) rfl rfl (by simp) (by simpa using hl3)),pi mi0]) (by kernel_rfl) (k [(jv j0 0),bT,bF,bF,bT,bT,(jv j0 6),(jv j0 7)])
 rintro ⟨⟩
 exact Bt Hd.Aa [fq (Am.Bk source.kids)] [bu [.sl (.row 0 3) w4_0.length (rows B7 w4_0),.sl (.row 1 3) w4_1.length (rows B7 w4_1),.sl .full 0 [],.mp 1,.mp 2,.mp 3] (Av (CC rfl (Aj _ _ (Bl.AW w4_0))) (Av (CC rfl (Aj _ _ (Bl.AW w4_1))) (Av (Ae _ _ (Gx rfl)) (Av rfl (Av rfl (Av rfl rfl)))))),Bc (Mm.nil:Mm Int Int),Bq w2_m,Bq w1_m,bp (Am.pl source)] (Ag 300 [pb (Fk hi0),BT (BQ .lost he0),pb hb4,pb hb5,pi mi0]) (by kernel_rfl) (k [(jv j0 0),bT,bF,bF,bF,bF,(jv j0 6),(jv j0 7)])
 rintro ⟨w4_0_4,w1_m_4,w4_1_4,w2_m_4⟩ jx_4
 dsimp only
 refine DF (fun Q v=>Iu P G Tryz.f47 5 ⟨[],0,[],0⟩ Q (.ptr 4 0) ⟨[(4,.cells [.sl (.row 0 3) v.1.length (rows B7 v.1),.sl (.row 1 3) v.2.1.length (rows B7 v.2.1),.sl .full 0 [],.mp 1,.mp 2,.mp 3]),(3,(BA v.2.2.2.2)),(2,(Bz v.2.2.2.1)),(1,(Bz v.2.2.1))],5,[(1,v.2.1.length),(0,v.1.length)],2⟩) (fun i1 (w3_m:(Mm Int Int)) (j1:List Value)=>fr 110 [(3,.ptr 4 0),(86,.sl .lost source.kids.length (Cg source.kids)),(87,.zi ((source.kids.length:Nat):Int)),(88,.zi ((i1:Nat):Int))] [2,17,22,23,52,53,89,94] j1) (fun (w3_m:(Mm Int Int))=>⟨[(4,.cells [.sl (.row 0 3) w4_0_4.length (rows B7 w4_0_4),.sl (.row 1 3) w4_1_4.length (rows B7 w4_1_4),.sl .full 0 [],.mp 1,.mp 2,.mp 3]),(3,(BA w3_m)),(2,(Bz w2_m_4)),(1,(Bz w1_m_4)),(0,.cells (Bo source))],5,[(1,w4_1_4.length),(0,w4_0_4.length)],2⟩) (fun (w3_m:(Mm Int Int)) (jx:List Value)=>fr 110 [(3,.ptr 4 0)] [2,17,22,23,52,53,89,94] jx) (fun (w3_m:(Mm Int Int))=>⟨[(4,.cells [.sl (.row 0 3) w4_0_4.length (rows B7 w4_0_4),.sl (.row 1 3) w4_1_4.length (rows B7 w4_1_4),.sl .full 0 [],.mp 1,.mp 2,.mp 3]),(3,(BA w3_m)),(2,(Bz w2_m_4)),(1,(Bz w1_m_4)),(0,.cells (Bo source))],5,[(1,w4_1_4.length),(0,w4_0_4.length)],2⟩) jx_4 (Dq [] 3 (sb B47 244) [.code (sb B47 31)] (BJ 300 []) (by kernel_rfl)) ?_ ?_ ?_ (fun v h=>by cases h;exact .outer .body)
 rintro i1 w3_m j1 hge hq
 exact B1 (Ag 300 [pb (IJ hge)]) (by kernel_rfl) (hq (js 8 j1 [(6,bF)]))
 rintro i1 e1 w3_m j1 r he1 hi1 mi1 k
 show EZ  w2_m_4 i1 e1 w3_m=some r→_
 unfold EZ
 refine Ad (fun hb6=>?_) fun hb6=>?_
 rintro ⟨⟩
 exact Bt Hd.Aa [fq (Am.Bk source.kids)] [bu [.sl (.row 0 3) w4_0_4.length (rows B7 w4_0_4),.sl (.row 1 3) w4_1_4.length (rows B7 w4_1_4),.sl .full 0 [],.mp 1,.mp 2,.mp 3] (Av (CC rfl (Aj _ _ (Bl.AW w4_0_4))) (Av (CC rfl (Aj _ _ (Bl.AW w4_1_4))) (Av (Ae _ _ (Gx rfl)) (Av rfl (Av rfl (Av rfl rfl)))))),Bc (w3_m.set e1.n ((w2_m_4.get e1.name).getD 0)),Bq w2_m_4,Bq w1_m_4,bp (Am.pl source)] (Ag 300 [pb (Fk hi1),BT (BQ .lost he1),pb hb6,pz 13,Ko (w7 w2_m_4 e1.name),VS (qO w3_m e1.n ((w2_m_4.get e1.name).getD 0)),pi mi1]) (by kernel_rfl) (k (js 8 j1 [(6,bT),(7,bT)]))
 rintro ⟨⟩
 exact Bt Hd.Aa [fq (Am.Bk source.kids)] [bu [.sl (.row 0 3) w4_0_4.length (rows B7 w4_0_4),.sl (.row 1 3) w4_1_4.length (rows B7 w4_1_4),.sl .full 0 [],.mp 1,.mp 2,.mp 3] (Av (CC rfl (Aj _ _ (Bl.AW w4_0_4))) (Av (CC rfl (Aj _ _ (Bl.AW w4_1_4))) (Av (Ae _ _ (Gx rfl)) (Av rfl (Av rfl (Av rfl rfl)))))),Bc w3_m,Bq w2_m_4,Bq w1_m_4,bp (Am.pl source)] (Ag 300 [pb (Fk hi1),BT (BQ .lost he1),pb hb6,pi mi1]) (by kernel_rfl) (k (js 8 j1 [(6,bT),(7,bF)]))
 rintro w3_m_5 jx_5
 intro h
 have hE:=Option.some.inj h
 obtain ⟨hE0,hF0⟩:=Prod.mk.inj hE
 obtain ⟨hE1,hF1⟩:=Prod.mk.inj hF0
 obtain ⟨hE2,hF2⟩:=Prod.mk.inj hF1
 obtain ⟨hE3,hF3⟩:=Prod.mk.inj hF2
 subst hE0 hE1 hE2 hE3 hF3
 exact V7 (n:=5) (m0:=2) Hd.Aa _ _ [4,3,2,1] [1] [⟨.ptr 4 0,.ptr 4 0,(.under rfl)⟩] [fbu [.sl (.row 0 3) w4_0_4.length (rows B7 w4_0_4),.sl (.row 1 3) w4_1_4.length (rows B7 w4_1_4),.sl .full 0 [],.mp 1,.mp 2,.mp 3] (Av (CC rfl (Aj _ _ (Bl.AW w4_0_4))) (Av (CC rfl (Aj _ _ (Bl.AW w4_1_4))) (Av (Ae _ _ (Gx rfl)) (Av rfl (Av rfl (Av rfl rfl)))))),⟨(BA w3_m_5),(BA w3_m_5),(Jo (fun _=>rfl))⟩,⟨(Bz w2_m_4),(Bz w2_m_4),(Jo (fun _=>rfl))⟩,⟨(Bz w1_m_4),(Bz w1_m_4),(Jo (fun _=>rfl))⟩] _ _ (BJ 300 []) (Nat.zero_le _) (Nat.zero_le _) (by kernel_rfl) .body
noncomputable def aed:Code:=AY Tryz.f130
theorem ae7:Tryz.f130.body=some aed:=by kernel_rfl
noncomputable def Dw  (t:Tr) (n:Nd):Option Ex:=cond (Bp n.kind 11) (some (⟨1,n.n,n.unit,(⟨0,[]⟩:Fn),[]⟩:Ex)) (cond (Bp n.kind 12) ((CP t.codex.facts ((t.facts.get n.name).getD 0)).bind fun x1=>some (⟨2,((t.facts.get n.name).getD 0),x1.unit,(⟨0,[]⟩:Fn),[]⟩:Ex)) (cond (Bp n.kind 13) ((CP t.codex.lines ((t.Af.get n.n).getD 0)).bind fun x2=>some (⟨3,n.n,x2.unit,(⟨0,[]⟩:Fn),[]⟩:Ex)) (cond (BC n.name.data.toList EV.data.toList) (some (⟨4,1,AF,(⟨0,[]⟩:Fn),[]⟩:Ex)) (cond (BC n.name.data.toList Oo.data.toList) (some (⟨4,2,AF,(⟨0,[]⟩:Fn),[]⟩:Ex)) (cond (BC n.name.data.toList H8.data.toList) (some (⟨4,3,AF,(⟨0,[]⟩:Fn),[]⟩:Ex)) (cond (BC n.name.data.toList Ks.data.toList) (some (⟨4,4,AF,(⟨0,[]⟩:Fn),[]⟩:Ex)) (some (⟨4,0,AF,(⟨0,[]⟩:Fn),[]⟩:Ex))))))))
theorem L5 {t:Tr} {n:Nd} {yR:Ex} (hS:Sound P G (.call 130 [.ptr 0 0,.agg (Bo n)] ⟨(DM t),4,(DI t),3⟩ (.ret (.agg (Er yR))) ⟨(DM t),4,(DI t),3⟩)) (u0 u1 u2 u3 v0 v1 v2:Nat) (hnb:([u0,u1,u2,u3]:List Nat).Nodup:=by decide) (hnt:([v0,v1,v2]:List Nat).Nodup:=by decide):Cd.ok P G (.callU 130 [.ptr u0 0,.agg (Bo n)] (.ret (.agg (Er yR))) [(u0,.cells (GK v0 v1 v2 u1 u2 u3 t)),(u1,(Bz t.facts)),(u2,(Bz t.lines)),(u3,(BA t.Af))] [(v0,t.codex.facts.length),(v1,t.codex.lines.length),(v2,t.codex.arts.length)] [(u0,.cells (GK v0 v1 v2 u1 u2 u3 t)),(u1,(Bz t.facts)),(u2,(Bz t.lines)),(u3,(BA t.Af))] [(v0,t.codex.facts.length),(v1,t.codex.lines.length),(v2,t.codex.arts.length)]) :=
 CS (M:=[.cells (GK 0 1 2 1 2 3 t),(Bz t.facts),(Bz t.lines),(BA t.Af)]) (M2:=[.cells (GK 0 1 2 1 2 3 t),(Bz t.facts),(Bz t.lines),(BA t.Af)]) (T:=[t.codex.facts.length,t.codex.lines.length,t.codex.arts.length]) (T2:=[t.codex.facts.length,t.codex.lines.length,t.codex.arts.length]) (k:=4) (j:=3) Hd.Aa _ _ _ _ hS rfl rfl rfl rfl rfl hnb hnt rfl rfl (.cons (.cells (IA t (by decide) (by decide) (by decide) (by decide) (by decide) (by decide))) (.cons (BK (fun _=>rfl)) (.cons (BK (fun _=>rfl)) (.cons (BK (fun _=>rfl)) .nil)))) (.cons (.cells (IA t (by decide) (by decide) (by decide) (by decide) (by decide) (by decide))) (.cons (BK (fun _=>rfl)) (.cons (BK (fun _=>rfl)) (.cons (BK (fun _=>rfl)) .nil)))) (.cons (.ptr (by decide)) (.cons (.pl (Am.Dp n)) .nil)) (.pl (By.Dp yR)) (by
   intro e he
   simp only [List.mem_cons,List.not_mem_nil,or_false] at he
   rcases he with rfl | rfl | rfl | rfl
   · exact (.arg (.here .ptr))
   · exact (.box (p:=0) (.arg (.here .ptr)) rfl (.there (.there (.there (.here .mp)))))
   · exact (.box (p:=0) (.arg (.here .ptr)) rfl (.there (.there (.there (.there (.here .mp))))))
   · exact (.box (p:=0) (.arg (.here .ptr)) rfl (.there (.there (.there (.there (.there (.here .mp)))))))
   )
theorem K4   {t:Tr} {n:Nd} {yR:Ex} (h:Dw  t n=some yR):Sound P G (.call 130 [.ptr 0 0,.agg (Bo n)] ⟨(DM t),4,(DI t),3⟩ (.ret (.agg (Er yR))) ⟨(DM t),4,(DI t),3⟩):=by
 unfold Dw at h
 refine CT Hd.mixed (Ay Tryz.func130 ae7 ?_)
 revert h
 refine Ad (fun hb1=>?_) fun hb1=>?_
 rintro ⟨⟩
 exact Ao Hd.Aa _ _ [⟨.agg [.zi 1,.zi n.n,.zs n.unit,.zi 0,.sl .full 0 [],.sl .full 0 []],.agg [.zi 1,.zi n.n,.zs n.unit,.zi 0,.sl .lost ([].length) (rows GY []),.sl .lost ([].length) (BL [])],(.wn (.g (.r (.r (.r (.r (.z (.z .nil)))))) .nil) (By.Dp (⟨1,n.n,n.unit,(⟨0,[]⟩:Fn),[]⟩:Ex)))⟩] [Bc t.Af,Bq t.lines,Bq t.facts,bu (GK 0 1 2 1 2 3 t) (CB rfl rfl rfl rfl rfl rfl)] (Ag 300 [pb hb1]) (by kernel_rfl) .body
 refine Ad (fun hb2=>?_) fun hb2=>?_
 refine Ah fun x1 hx1=>?_
 rintro ⟨⟩
 exact Ao Hd.Aa _ _ [⟨.agg [.zi 2,.zi ((t.facts.get n.name).getD 0),.zs x1.unit,.zi 0,.sl .full 0 [],.sl .full 0 []],.agg [.zi 2,.zi ((t.facts.get n.name).getD 0),.zs x1.unit,.zi 0,.sl .lost ([].length) (rows GY []),.sl .lost ([].length) (BL [])],(.wn (.g (.r (.r (.r (.r (.z (.z .nil)))))) .nil) (By.Dp (⟨2,((t.facts.get n.name).getD 0),x1.unit,(⟨0,[]⟩:Fn),[]⟩:Ex)))⟩] [Bc t.Af,Bq t.lines,Bq t.facts,bu (GK 0 1 2 1 2 3 t) (CB rfl rfl rfl rfl rfl rfl)] (Ag 300 [pb hb1,pb hb2,Ko (w7 t.facts n.name),BT (Nh (.row 0 3) hx1)]) (by kernel_rfl) .body
 let o1:LP:=[pb hb1,pb hb2]
 refine Ad (fun hb3=>?_) fun hb3=>?_
 refine Ah fun x2 hx2=>?_
 rintro ⟨⟩
 exact Ao Hd.Aa _ _ [⟨.agg [.zi 3,.zi n.n,.zs x2.unit,.zi 0,.sl .full 0 [],.sl .full 0 []],.agg [.zi 3,.zi n.n,.zs x2.unit,.zi 0,.sl .lost ([].length) (rows GY []),.sl .lost ([].length) (BL [])],(.wn (.g (.r (.r (.r (.r (.z (.z .nil)))))) .nil) (By.Dp (⟨3,n.n,x2.unit,(⟨0,[]⟩:Fn),[]⟩:Ex)))⟩] [Bc t.Af,Bq t.lines,Bq t.facts,bu (GK 0 1 2 1 2 3 t) (CB rfl rfl rfl rfl rfl rfl)] (Ag 300 (o1++[pb hb3,pz 18,Ko (qR t.Af n.n),BT (Nh (.row 1 3) hx2)])) (by kernel_rfl) .body
 refine Ad (fun hb4=>?_) fun hb4=>?_
 rintro ⟨⟩
 exact Ao Hd.Aa _ _ [⟨.agg [.zi 4,.zi 1,.zs AF,.zi 0,.sl .full 0 [],.sl .full 0 []],.agg [.zi 4,.zi 1,.zs AF,.zi 0,.sl .lost ([].length) (rows GY []),.sl .lost ([].length) (BL [])],(.wn (.g (.r (.r (.r (.r (.z (.z .nil)))))) .nil) (By.Dp (⟨4,1,AF,(⟨0,[]⟩:Fn),[]⟩:Ex)))⟩] [Bc t.Af,Bq t.lines,Bq t.facts,bu (GK 0 1 2 1 2 3 t) (CB rfl rfl rfl rfl rfl rfl)] (Ag 300 (o1++[pb hb3,pb hb4])) (by kernel_rfl) .body
 refine Ad (fun hb5=>?_) fun hb5=>?_
 rintro ⟨⟩
 exact Ao Hd.Aa _ _ [⟨.agg [.zi 4,.zi 2,.zs AF,.zi 0,.sl .full 0 [],.sl .full 0 []],.agg [.zi 4,.zi 2,.zs AF,.zi 0,.sl .lost ([].length) (rows GY []),.sl .lost ([].length) (BL [])],(.wn (.g (.r (.r (.r (.r (.z (.z .nil)))))) .nil) (By.Dp (⟨4,2,AF,(⟨0,[]⟩:Fn),[]⟩:Ex)))⟩] [Bc t.Af,Bq t.lines,Bq t.facts,bu (GK 0 1 2 1 2 3 t) (CB rfl rfl rfl rfl rfl rfl)] (Ag 300 (o1++[pb hb3,pb hb4,pb hb5])) (by kernel_rfl) .body
 refine Ad (fun hb6=>?_) fun hb6=>?_
 rintro ⟨⟩
 exact Ao Hd.Aa _ _ [⟨.agg [.zi 4,.zi 3,.zs AF,.zi 0,.sl .full 0 [],.sl .full 0 []],.agg [.zi 4,.zi 3,.zs AF,.zi 0,.sl .lost ([].length) (rows GY []),.sl .lost ([].length) (BL [])],(.wn (.g (.r (.r (.r (.r (.z (.z .nil)))))) .nil) (By.Dp (⟨4,3,AF,(⟨0,[]⟩:Fn),[]⟩:Ex)))⟩] [Bc t.Af,Bq t.lines,Bq t.facts,bu (GK 0 1 2 1 2 3 t) (CB rfl rfl rfl rfl rfl rfl)] (Ag 300 (o1++[pb hb3,pb hb4,pb hb5,pb hb6])) (by kernel_rfl) .body
 refine Ad (fun hb7=>?_) fun hb7=>?_
 rintro ⟨⟩
 exact Ao Hd.Aa _ _ [⟨.agg [.zi 4,.zi 4,.zs AF,.zi 0,.sl .full 0 [],.sl .full 0 []],.agg [.zi 4,.zi 4,.zs AF,.zi 0,.sl .lost ([].length) (rows GY []),.sl .lost ([].length) (BL [])],(.wn (.g (.r (.r (.r (.r (.z (.z .nil)))))) .nil) (By.Dp (⟨4,4,AF,(⟨0,[]⟩:Fn),[]⟩:Ex)))⟩] [Bc t.Af,Bq t.lines,Bq t.facts,bu (GK 0 1 2 1 2 3 t) (CB rfl rfl rfl rfl rfl rfl)] (Ag 300 (o1++[pb hb3,pb hb4,pb hb5,pb hb6,pb hb7])) (by kernel_rfl) .body
 rintro ⟨⟩
 exact Ao Hd.Aa _ _ [⟨.agg [.zi 4,.zi 0,.zs AF,.zi 0,.sl .full 0 [],.sl .full 0 []],.agg [.zi 4,.zi 0,.zs AF,.zi 0,.sl .lost ([].length) (rows GY []),.sl .lost ([].length) (BL [])],(.wn (.g (.r (.r (.r (.r (.z (.z .nil)))))) .nil) (By.Dp (⟨4,0,AF,(⟨0,[]⟩:Fn),[]⟩:Ex)))⟩] [Bc t.Af,Bq t.lines,Bq t.facts,bu (GK 0 1 2 1 2 3 t) (CB rfl rfl rfl rfl rfl rfl)] (Ag 300 (o1++[pb hb3,pb hb4,pb hb5,pb hb6,pb hb7])) (by kernel_rfl) .body
noncomputable def aeL:Code:=AY Tryz.f167
theorem ae4:Tryz.f167.body=some aeL:=by kernel_rfl
noncomputable def CG  (first:ByteArray) (second:ByteArray):Option ByteArray:=cond (BC first.data.toList AF.data.toList) (some second) (some first)
theorem Fv   {first:ByteArray} {second:ByteArray} {yR:ByteArray} (h:CG  first second=some yR):Pure P G 167 [.zs first,.zs second] (.zs yR):=by
 unfold CG at h
 refine BF Hd.mixed Hd.Aa (Ay Tryz.func167 ae4 ?_) (AW rfl (AW rfl rfl)) rfl
 revert h
 refine Ad (fun hb1=>?_) fun hb1=>?_
 rintro ⟨⟩
 exact rT [pb hb1]
 rintro ⟨⟩
 exact rT [pb hb1]
noncomputable def aes:Code:=AY Tryz.f168
theorem aaS:Tryz.f168.body=some aes:=by kernel_rfl
noncomputable def KH (s:List Pc):Option (List Pc):=Lt (([]:List Pc).length+s.length) (some s)
theorem Rz {s:List Pc} {yR:List Pc} (h:KH s=some yR):Pure P G 168 [.sl .lost s.length (rows GY s)] (.sl .lost yR.length (rows GY yR)):=by
 unfold KH at h
 revert h
 refine Kz fun hl h=>?_
 have hE:=Option.some.inj h
 subst hE
 refine pure_nil (fun hn hc=>?_) ?_
 · rw [hn,hc]
   exact BF Hd.mixed Hd.Aa (Ay Tryz.func168 aaS (Ap (v:=.sl .full 0 []) _ _ (Ag 300 [pk]) (by kernel_rfl) .body (.wn (.z .nil) rfl))) rfl rfl
 · by_cases hm:s.length=0
   · obtain rfl:=List.eq_nil_of_length_eq_zero hm
     exact BF Hd.mixed Hd.Aa (Ay Tryz.func168 aaS (Ap (v:=.sl .full 0 []) _ _ (Ag 300 [pk,pga (adA .full ([]:List Pc) ([]:List Pc) (o:=.nn) ⟨[],0,[],0⟩ rfl hl)]) (by kernel_rfl) .body (.wn (.z .nil) rfl))) rfl rfl
   · exact BF Hd.mixed Hd.Aa (Ay Tryz.func168 aaS (Ap (v:=.sl (.row 0 3) s.length (rows GY s)) _ _ (Ag 300 [pk,Nk (abY .full ([]:List Pc) s (o:=.nn) hm hl)]) (by kernel_rfl) .body (.wn (.s rfl .nil) (Ch.Bk s)))) (AW (abb (Ch.AW s)) rfl) (Ch.Bk s)
theorem IL {t:Tr} {n:Nd} {yR:Ex} (hS:Sound P G (.call 85 [.ptr 0 0,.agg (Bo n)] ⟨(DM t),4,(DI t),3⟩ (.ret (.agg (Er yR))) ⟨(DM t),4,(DI t),3⟩)) (u0 u1 u2 u3 v0 v1 v2:Nat) (hnb:([u0,u1,u2,u3]:List Nat).Nodup:=by decide) (hnt:([v0,v1,v2]:List Nat).Nodup:=by decide):Cd.ok P G (.callU 85 [.ptr u0 0,.agg (Bo n)] (.ret (.agg (Er yR))) [(u0,.cells (GK v0 v1 v2 u1 u2 u3 t)),(u1,(Bz t.facts)),(u2,(Bz t.lines)),(u3,(BA t.Af))] [(v0,t.codex.facts.length),(v1,t.codex.lines.length),(v2,t.codex.arts.length)] [(u0,.cells (GK v0 v1 v2 u1 u2 u3 t)),(u1,(Bz t.facts)),(u2,(Bz t.lines)),(u3,(BA t.Af))] [(v0,t.codex.facts.length),(v1,t.codex.lines.length),(v2,t.codex.arts.length)]) :=
 CS (M:=[.cells (GK 0 1 2 1 2 3 t),(Bz t.facts),(Bz t.lines),(BA t.Af)]) (M2:=[.cells (GK 0 1 2 1 2 3 t),(Bz t.facts),(Bz t.lines),(BA t.Af)]) (T:=[t.codex.facts.length,t.codex.lines.length,t.codex.arts.length]) (T2:=[t.codex.facts.length,t.codex.lines.length,t.codex.arts.length]) (k:=4) (j:=3) Hd.Aa _ _ _ _ hS rfl rfl rfl rfl rfl hnb hnt rfl rfl (.cons (.cells (IA t (by decide) (by decide) (by decide) (by decide) (by decide) (by decide))) (.cons (BK (fun _=>rfl)) (.cons (BK (fun _=>rfl)) (.cons (BK (fun _=>rfl)) .nil)))) (.cons (.cells (IA t (by decide) (by decide) (by decide) (by decide) (by decide) (by decide))) (.cons (BK (fun _=>rfl)) (.cons (BK (fun _=>rfl)) (.cons (BK (fun _=>rfl)) .nil)))) (.cons (.ptr (by decide)) (.cons (.pl (Am.Dp n)) .nil)) (.pl (By.Dp yR)) (by
   intro e he
   simp only [List.mem_cons,List.not_mem_nil,or_false] at he
   rcases he with rfl | rfl | rfl | rfl
   · exact (.arg (.here .ptr))
   · exact (.box (p:=0) (.arg (.here .ptr)) rfl (.there (.there (.there (.here .mp)))))
   · exact (.box (p:=0) (.arg (.here .ptr)) rfl (.there (.there (.there (.there (.here .mp))))))
   · exact (.box (p:=0) (.arg (.here .ptr)) rfl (.there (.there (.there (.there (.there (.here .mp)))))))
   )
theorem MG {t:Tr} {n:Nd} {yR:Ex} (hS:Sound P G (.call 131 [.ptr 0 0,.agg (Bo n)] ⟨(DM t),4,(DI t),3⟩ (.ret (.agg (Er yR))) ⟨(DM t),4,(DI t),3⟩)) (u0 u1 u2 u3 v0 v1 v2:Nat) (hnb:([u0,u1,u2,u3]:List Nat).Nodup:=by decide) (hnt:([v0,v1,v2]:List Nat).Nodup:=by decide):Cd.ok P G (.callU 131 [.ptr u0 0,.agg (Bo n)] (.ret (.agg (Er yR))) [(u0,.cells (GK v0 v1 v2 u1 u2 u3 t)),(u1,(Bz t.facts)),(u2,(Bz t.lines)),(u3,(BA t.Af))] [(v0,t.codex.facts.length),(v1,t.codex.lines.length),(v2,t.codex.arts.length)] [(u0,.cells (GK v0 v1 v2 u1 u2 u3 t)),(u1,(Bz t.facts)),(u2,(Bz t.lines)),(u3,(BA t.Af))] [(v0,t.codex.facts.length),(v1,t.codex.lines.length),(v2,t.codex.arts.length)]) :=
 CS (M:=[.cells (GK 0 1 2 1 2 3 t),(Bz t.facts),(Bz t.lines),(BA t.Af)]) (M2:=[.cells (GK 0 1 2 1 2 3 t),(Bz t.facts),(Bz t.lines),(BA t.Af)]) (T:=[t.codex.facts.length,t.codex.lines.length,t.codex.arts.length]) (T2:=[t.codex.facts.length,t.codex.lines.length,t.codex.arts.length]) (k:=4) (j:=3) Hd.Aa _ _ _ _ hS rfl rfl rfl rfl rfl hnb hnt rfl rfl (.cons (.cells (IA t (by decide) (by decide) (by decide) (by decide) (by decide) (by decide))) (.cons (BK (fun _=>rfl)) (.cons (BK (fun _=>rfl)) (.cons (BK (fun _=>rfl)) .nil)))) (.cons (.cells (IA t (by decide) (by decide) (by decide) (by decide) (by decide) (by decide))) (.cons (BK (fun _=>rfl)) (.cons (BK (fun _=>rfl)) (.cons (BK (fun _=>rfl)) .nil)))) (.cons (.ptr (by decide)) (.cons (.pl (Am.Dp n)) .nil)) (.pl (By.Dp yR)) (by
   intro e he
   simp only [List.mem_cons,List.not_mem_nil,or_false] at he
   rcases he with rfl | rfl | rfl | rfl
   · exact (.arg (.here .ptr))
   · exact (.box (p:=0) (.arg (.here .ptr)) rfl (.there (.there (.there (.here .mp)))))
   · exact (.box (p:=0) (.arg (.here .ptr)) rfl (.there (.there (.there (.there (.here .mp))))))
   · exact (.box (p:=0) (.arg (.here .ptr)) rfl (.there (.there (.there (.there (.there (.here .mp)))))))
   )
theorem Ll {t:Tr} {n:Nd} {yR:Ex} (hS:Sound P G (.call 132 [.ptr 0 0,.agg (Bo n)] ⟨(DM t),4,(DI t),3⟩ (.ret (.agg (Er yR))) ⟨(DM t),4,(DI t),3⟩)) (u0 u1 u2 u3 v0 v1 v2:Nat) (hnb:([u0,u1,u2,u3]:List Nat).Nodup:=by decide) (hnt:([v0,v1,v2]:List Nat).Nodup:=by decide):Cd.ok P G (.callU 132 [.ptr u0 0,.agg (Bo n)] (.ret (.agg (Er yR))) [(u0,.cells (GK v0 v1 v2 u1 u2 u3 t)),(u1,(Bz t.facts)),(u2,(Bz t.lines)),(u3,(BA t.Af))] [(v0,t.codex.facts.length),(v1,t.codex.lines.length),(v2,t.codex.arts.length)] [(u0,.cells (GK v0 v1 v2 u1 u2 u3 t)),(u1,(Bz t.facts)),(u2,(Bz t.lines)),(u3,(BA t.Af))] [(v0,t.codex.facts.length),(v1,t.codex.lines.length),(v2,t.codex.arts.length)]) :=
 CS (M:=[.cells (GK 0 1 2 1 2 3 t),(Bz t.facts),(Bz t.lines),(BA t.Af)]) (M2:=[.cells (GK 0 1 2 1 2 3 t),(Bz t.facts),(Bz t.lines),(BA t.Af)]) (T:=[t.codex.facts.length,t.codex.lines.length,t.codex.arts.length]) (T2:=[t.codex.facts.length,t.codex.lines.length,t.codex.arts.length]) (k:=4) (j:=3) Hd.Aa _ _ _ _ hS rfl rfl rfl rfl rfl hnb hnt rfl rfl (.cons (.cells (IA t (by decide) (by decide) (by decide) (by decide) (by decide) (by decide))) (.cons (BK (fun _=>rfl)) (.cons (BK (fun _=>rfl)) (.cons (BK (fun _=>rfl)) .nil)))) (.cons (.cells (IA t (by decide) (by decide) (by decide) (by decide) (by decide) (by decide))) (.cons (BK (fun _=>rfl)) (.cons (BK (fun _=>rfl)) (.cons (BK (fun _=>rfl)) .nil)))) (.cons (.ptr (by decide)) (.cons (.pl (Am.Dp n)) .nil)) (.pl (By.Dp yR)) (by
   intro e he
   simp only [List.mem_cons,List.not_mem_nil,or_false] at he
   rcases he with rfl | rfl | rfl | rfl
   · exact (.arg (.here .ptr))
   · exact (.box (p:=0) (.arg (.here .ptr)) rfl (.there (.there (.there (.here .mp)))))
   · exact (.box (p:=0) (.arg (.here .ptr)) rfl (.there (.there (.there (.there (.here .mp))))))
   · exact (.box (p:=0) (.arg (.here .ptr)) rfl (.there (.there (.there (.there (.there (.here .mp)))))))
   )
theorem Mc {t:Tr} {n:Nd} {yR:Ex} (hS:Sound P G (.call 133 [.ptr 0 0,.agg (Bo n)] ⟨(DM t),4,(DI t),3⟩ (.ret (.agg (Er yR))) ⟨(DM t),4,(DI t),3⟩)) (u0 u1 u2 u3 v0 v1 v2:Nat) (hnb:([u0,u1,u2,u3]:List Nat).Nodup:=by decide) (hnt:([v0,v1,v2]:List Nat).Nodup:=by decide):Cd.ok P G (.callU 133 [.ptr u0 0,.agg (Bo n)] (.ret (.agg (Er yR))) [(u0,.cells (GK v0 v1 v2 u1 u2 u3 t)),(u1,(Bz t.facts)),(u2,(Bz t.lines)),(u3,(BA t.Af))] [(v0,t.codex.facts.length),(v1,t.codex.lines.length),(v2,t.codex.arts.length)] [(u0,.cells (GK v0 v1 v2 u1 u2 u3 t)),(u1,(Bz t.facts)),(u2,(Bz t.lines)),(u3,(BA t.Af))] [(v0,t.codex.facts.length),(v1,t.codex.lines.length),(v2,t.codex.arts.length)]) :=
 CS (M:=[.cells (GK 0 1 2 1 2 3 t),(Bz t.facts),(Bz t.lines),(BA t.Af)]) (M2:=[.cells (GK 0 1 2 1 2 3 t),(Bz t.facts),(Bz t.lines),(BA t.Af)]) (T:=[t.codex.facts.length,t.codex.lines.length,t.codex.arts.length]) (T2:=[t.codex.facts.length,t.codex.lines.length,t.codex.arts.length]) (k:=4) (j:=3) Hd.Aa _ _ _ _ hS rfl rfl rfl rfl rfl hnb hnt rfl rfl (.cons (.cells (IA t (by decide) (by decide) (by decide) (by decide) (by decide) (by decide))) (.cons (BK (fun _=>rfl)) (.cons (BK (fun _=>rfl)) (.cons (BK (fun _=>rfl)) .nil)))) (.cons (.cells (IA t (by decide) (by decide) (by decide) (by decide) (by decide) (by decide))) (.cons (BK (fun _=>rfl)) (.cons (BK (fun _=>rfl)) (.cons (BK (fun _=>rfl)) .nil)))) (.cons (.ptr (by decide)) (.cons (.pl (Am.Dp n)) .nil)) (.pl (By.Dp yR)) (by
   intro e he
   simp only [List.mem_cons,List.not_mem_nil,or_false] at he
   rcases he with rfl | rfl | rfl | rfl
   · exact (.arg (.here .ptr))
   · exact (.box (p:=0) (.arg (.here .ptr)) rfl (.there (.there (.there (.here .mp)))))
   · exact (.box (p:=0) (.arg (.here .ptr)) rfl (.there (.there (.there (.there (.here .mp))))))
   · exact (.box (p:=0) (.arg (.here .ptr)) rfl (.there (.there (.there (.there (.there (.here .mp)))))))
   )
theorem L0 {t:Tr} {n:Nd} {yR:Ex} (hS:Sound P G (.call 134 [.ptr 0 0,.agg (Bo n)] ⟨(DM t),4,(DI t),3⟩ (.ret (.agg (Er yR))) ⟨(DM t),4,(DI t),3⟩)) (u0 u1 u2 u3 v0 v1 v2:Nat) (hnb:([u0,u1,u2,u3]:List Nat).Nodup:=by decide) (hnt:([v0,v1,v2]:List Nat).Nodup:=by decide):Cd.ok P G (.callU 134 [.ptr u0 0,.agg (Bo n)] (.ret (.agg (Er yR))) [(u0,.cells (GK v0 v1 v2 u1 u2 u3 t)),(u1,(Bz t.facts)),(u2,(Bz t.lines)),(u3,(BA t.Af))] [(v0,t.codex.facts.length),(v1,t.codex.lines.length),(v2,t.codex.arts.length)] [(u0,.cells (GK v0 v1 v2 u1 u2 u3 t)),(u1,(Bz t.facts)),(u2,(Bz t.lines)),(u3,(BA t.Af))] [(v0,t.codex.facts.length),(v1,t.codex.lines.length),(v2,t.codex.arts.length)]) :=
 CS (M:=[.cells (GK 0 1 2 1 2 3 t),(Bz t.facts),(Bz t.lines),(BA t.Af)]) (M2:=[.cells (GK 0 1 2 1 2 3 t),(Bz t.facts),(Bz t.lines),(BA t.Af)]) (T:=[t.codex.facts.length,t.codex.lines.length,t.codex.arts.length]) (T2:=[t.codex.facts.length,t.codex.lines.length,t.codex.arts.length]) (k:=4) (j:=3) Hd.Aa _ _ _ _ hS rfl rfl rfl rfl rfl hnb hnt rfl rfl (.cons (.cells (IA t (by decide) (by decide) (by decide) (by decide) (by decide) (by decide))) (.cons (BK (fun _=>rfl)) (.cons (BK (fun _=>rfl)) (.cons (BK (fun _=>rfl)) .nil)))) (.cons (.cells (IA t (by decide) (by decide) (by decide) (by decide) (by decide) (by decide))) (.cons (BK (fun _=>rfl)) (.cons (BK (fun _=>rfl)) (.cons (BK (fun _=>rfl)) .nil)))) (.cons (.ptr (by decide)) (.cons (.pl (Am.Dp n)) .nil)) (.pl (By.Dp yR)) (by
   intro e he
   simp only [List.mem_cons,List.not_mem_nil,or_false] at he
   rcases he with rfl | rfl | rfl | rfl
   · exact (.arg (.here .ptr))
   · exact (.box (p:=0) (.arg (.here .ptr)) rfl (.there (.there (.there (.here .mp)))))
   · exact (.box (p:=0) (.arg (.here .ptr)) rfl (.there (.there (.there (.there (.here .mp))))))
   · exact (.box (p:=0) (.arg (.here .ptr)) rfl (.there (.there (.there (.there (.there (.here .mp)))))))
   )
theorem EC {t:Tr} {n:Nd} {yR:(List Ex)} (hS:Sound P G (.call 166 [.ptr 0 0,.agg (Bo n)] ⟨(DM t),4,(DI t),3⟩ (.ret (.sl .lost yR.length (BL yR))) ⟨(DM t),4,(DI t),3⟩)) (u0 u1 u2 u3 v0 v1 v2:Nat) (hnb:([u0,u1,u2,u3]:List Nat).Nodup:=by decide) (hnt:([v0,v1,v2]:List Nat).Nodup:=by decide):Cd.ok P G (.callU 166 [.ptr u0 0,.agg (Bo n)] (.ret (.sl .lost yR.length (BL yR))) [(u0,.cells (GK v0 v1 v2 u1 u2 u3 t)),(u1,(Bz t.facts)),(u2,(Bz t.lines)),(u3,(BA t.Af))] [(v0,t.codex.facts.length),(v1,t.codex.lines.length),(v2,t.codex.arts.length)] [(u0,.cells (GK v0 v1 v2 u1 u2 u3 t)),(u1,(Bz t.facts)),(u2,(Bz t.lines)),(u3,(BA t.Af))] [(v0,t.codex.facts.length),(v1,t.codex.lines.length),(v2,t.codex.arts.length)]) :=
 CS (M:=[.cells (GK 0 1 2 1 2 3 t),(Bz t.facts),(Bz t.lines),(BA t.Af)]) (M2:=[.cells (GK 0 1 2 1 2 3 t),(Bz t.facts),(Bz t.lines),(BA t.Af)]) (T:=[t.codex.facts.length,t.codex.lines.length,t.codex.arts.length]) (T2:=[t.codex.facts.length,t.codex.lines.length,t.codex.arts.length]) (k:=4) (j:=3) Hd.Aa _ _ _ _ hS rfl rfl rfl rfl rfl hnb hnt rfl rfl (.cons (.cells (IA t (by decide) (by decide) (by decide) (by decide) (by decide) (by decide))) (.cons (BK (fun _=>rfl)) (.cons (BK (fun _=>rfl)) (.cons (BK (fun _=>rfl)) .nil)))) (.cons (.cells (IA t (by decide) (by decide) (by decide) (by decide) (by decide) (by decide))) (.cons (BK (fun _=>rfl)) (.cons (BK (fun _=>rfl)) (.cons (BK (fun _=>rfl)) .nil)))) (.cons (.ptr (by decide)) (.cons (.pl (Am.Dp n)) .nil)) (.pl (By.Bk yR)) (by
   intro e he
   simp only [List.mem_cons,List.not_mem_nil,or_false] at he
   rcases he with rfl | rfl | rfl | rfl
   · exact (.arg (.here .ptr))
   · exact (.box (p:=0) (.arg (.here .ptr)) rfl (.there (.there (.there (.here .mp)))))
   · exact (.box (p:=0) (.arg (.here .ptr)) rfl (.there (.there (.there (.there (.here .mp))))))
   · exact (.box (p:=0) (.arg (.here .ptr)) rfl (.there (.there (.there (.there (.there (.here .mp)))))))
   )
noncomputable def B85:Code:=AY Tryz.f85
theorem b85:Tryz.f85.body=some B85:=by kernel_rfl
noncomputable def EK (Ax:Tr→Nd→Option Ex) (Az:Tr→Nd→Option Ex) (At:Tr→Nd→Option Ex) (Aw:Tr→Nd→Option Ex) (Au:Tr→Nd→Option Ex) (Aq:Tr→Nd→Option (List Ex)) (t:Tr) (n:Nd):Option Ex:=cond (Bp n.kind 15) ((Az t n).bind fun y1=>some y1) (cond (Bp n.kind 16) ((At t n).bind fun y2=>some y2) (cond (Bp n.kind 17) ((Aw t n).bind fun y3=>some y3) (cond (Bp n.kind 18) ((Au t n).bind fun y4=>some y4) ((Dw t n).bind fun y5=>some y5))))
theorem K3 (Ax:Tr→Nd→Option Ex) (Az:Tr→Nd→Option Ex) (At:Tr→Nd→Option Ex) (Aw:Tr→Nd→Option Ex) (Au:Tr→Nd→Option Ex) (Aq:Tr→Nd→Option (List Ex)) (CJ:∀ {t:Tr} {n:Nd} {yR:Ex},Ax t n=some yR→Sound P G (.call 85 [.ptr 0 0,.agg (Bo n)] ⟨(DM t),4,(DI t),3⟩ (.ret (.agg (Er yR))) ⟨(DM t),4,(DI t),3⟩)) (CU:∀ {t:Tr} {n:Nd} {yR:Ex},Az t n=some yR→Sound P G (.call 131 [.ptr 0 0,.agg (Bo n)] ⟨(DM t),4,(DI t),3⟩ (.ret (.agg (Er yR))) ⟨(DM t),4,(DI t),3⟩)) (Cr:∀ {t:Tr} {n:Nd} {yR:Ex},At t n=some yR→Sound P G (.call 132 [.ptr 0 0,.agg (Bo n)] ⟨(DM t),4,(DI t),3⟩ (.ret (.agg (Er yR))) ⟨(DM t),4,(DI t),3⟩)) (CI:∀ {t:Tr} {n:Nd} {yR:Ex},Aw t n=some yR→Sound P G (.call 133 [.ptr 0 0,.agg (Bo n)] ⟨(DM t),4,(DI t),3⟩ (.ret (.agg (Er yR))) ⟨(DM t),4,(DI t),3⟩)) (CA:∀ {t:Tr} {n:Nd} {yR:Ex},Au t n=some yR→Sound P G (.call 134 [.ptr 0 0,.agg (Bo n)] ⟨(DM t),4,(DI t),3⟩ (.ret (.agg (Er yR))) ⟨(DM t),4,(DI t),3⟩)) (BN:∀ {t:Tr} {n:Nd} {yR:(List Ex)},Aq t n=some yR→Sound P G (.call 166 [.ptr 0 0,.agg (Bo n)] ⟨(DM t),4,(DI t),3⟩ (.ret (.sl .lost yR.length (BL yR))) ⟨(DM t),4,(DI t),3⟩)) {t:Tr} {n:Nd} {yR:Ex} (h:EK Ax Az At Aw Au Aq t n=some yR):Sound P G (.call 85 [.ptr 0 0,.agg (Bo n)] ⟨(DM t),4,(DI t),3⟩ (.ret (.agg (Er yR))) ⟨(DM t),4,(DI t),3⟩):=by
 unfold EK at h
 refine CT Hd.mixed (Ay Tryz.func85 b85 ?_)
 revert h
 refine Ad (fun hb1=>?_) fun hb1=>?_
 refine Ah fun y1 hy1=>?_
 refine sJ ?_
 rintro rfl
 exact Ao Hd.Aa _ _ [⟨.agg (Er y1),.agg (Er y1),(.plain (By.Dp y1))⟩] [Bc t.Af,Bq t.lines,Bq t.facts,bu (GK 0 1 2 1 2 3 t) (CB rfl rfl rfl rfl rfl rfl)] (Ag 300 [pb hb1,AG (MG (CU hy1) 0 1 2 3 0 1 2)]) (by kernel_rfl) .body
 refine Ad (fun hb2=>?_) fun hb2=>?_
 refine Ah fun y2 hy2=>?_
 refine sJ ?_
 rintro rfl
 exact Ao Hd.Aa _ _ [⟨.agg (Er y2),.agg (Er y2),(.plain (By.Dp y2))⟩] [Bc t.Af,Bq t.lines,Bq t.facts,bu (GK 0 1 2 1 2 3 t) (CB rfl rfl rfl rfl rfl rfl)] (Ag 300 [pb hb1,pb hb2,AG (Ll (Cr hy2) 0 1 2 3 0 1 2)]) (by kernel_rfl) .body
 refine Ad (fun hb3=>?_) fun hb3=>?_
 refine Ah fun y3 hy3=>?_
 refine sJ ?_
 rintro rfl
 exact Ao Hd.Aa _ _ [⟨.agg (Er y3),.agg (Er y3),(.plain (By.Dp y3))⟩] [Bc t.Af,Bq t.lines,Bq t.facts,bu (GK 0 1 2 1 2 3 t) (CB rfl rfl rfl rfl rfl rfl)] (Ag 300 [pb hb1,pb hb2,pb hb3,AG (Mc (CI hy3) 0 1 2 3 0 1 2)]) (by kernel_rfl) .body
 refine Ad (fun hb4=>?_) fun hb4=>?_
 refine Ah fun y4 hy4=>?_
 refine sJ ?_
 rintro rfl
 exact Ao Hd.Aa _ _ [⟨.agg (Er y4),.agg (Er y4),(.plain (By.Dp y4))⟩] [Bc t.Af,Bq t.lines,Bq t.facts,bu (GK 0 1 2 1 2 3 t) (CB rfl rfl rfl rfl rfl rfl)] (Ag 300 [pb hb1,pb hb2,pb hb3,pb hb4,AG (L0 (CA hy4) 0 1 2 3 0 1 2)]) (by kernel_rfl) .body
 refine Ah fun y5 hy5=>?_
 refine sJ ?_
 rintro rfl
 exact Ao Hd.Aa _ _ [⟨.agg (Er y5),.agg (Er y5),(.plain (By.Dp y5))⟩] [Bc t.Af,Bq t.lines,Bq t.facts,bu (GK 0 1 2 1 2 3 t) (CB rfl rfl rfl rfl rfl rfl)] (Ag 300 [pb hb1,pb hb2,pb hb3,pb hb4,AG (L5 (K4 hy5) 0 1 2 3 0 1 2)]) (by kernel_rfl) .body
noncomputable def aeE:Code:=AY Tryz.f131
theorem aey:Tryz.f131.body=some aeE:=by kernel_rfl
noncomputable def E1 (Ax:Tr→Nd→Option Ex) (Az:Tr→Nd→Option Ex) (At:Tr→Nd→Option Ex) (Aw:Tr→Nd→Option Ex) (Au:Tr→Nd→Option Ex) (Aq:Tr→Nd→Option (List Ex)) (t:Tr) (n:Nd):Option Ex:=(Aq t n).bind fun y1=>some (⟨5,0,Ak,(⟨0,[]⟩:Fn),y1⟩:Ex)
theorem Lo (Ax:Tr→Nd→Option Ex) (Az:Tr→Nd→Option Ex) (At:Tr→Nd→Option Ex) (Aw:Tr→Nd→Option Ex) (Au:Tr→Nd→Option Ex) (Aq:Tr→Nd→Option (List Ex)) (CJ:∀ {t:Tr} {n:Nd} {yR:Ex},Ax t n=some yR→Sound P G (.call 85 [.ptr 0 0,.agg (Bo n)] ⟨(DM t),4,(DI t),3⟩ (.ret (.agg (Er yR))) ⟨(DM t),4,(DI t),3⟩)) (CU:∀ {t:Tr} {n:Nd} {yR:Ex},Az t n=some yR→Sound P G (.call 131 [.ptr 0 0,.agg (Bo n)] ⟨(DM t),4,(DI t),3⟩ (.ret (.agg (Er yR))) ⟨(DM t),4,(DI t),3⟩)) (Cr:∀ {t:Tr} {n:Nd} {yR:Ex},At t n=some yR→Sound P G (.call 132 [.ptr 0 0,.agg (Bo n)] ⟨(DM t),4,(DI t),3⟩ (.ret (.agg (Er yR))) ⟨(DM t),4,(DI t),3⟩)) (CI:∀ {t:Tr} {n:Nd} {yR:Ex},Aw t n=some yR→Sound P G (.call 133 [.ptr 0 0,.agg (Bo n)] ⟨(DM t),4,(DI t),3⟩ (.ret (.agg (Er yR))) ⟨(DM t),4,(DI t),3⟩)) (CA:∀ {t:Tr} {n:Nd} {yR:Ex},Au t n=some yR→Sound P G (.call 134 [.ptr 0 0,.agg (Bo n)] ⟨(DM t),4,(DI t),3⟩ (.ret (.agg (Er yR))) ⟨(DM t),4,(DI t),3⟩)) (BN:∀ {t:Tr} {n:Nd} {yR:(List Ex)},Aq t n=some yR→Sound P G (.call 166 [.ptr 0 0,.agg (Bo n)] ⟨(DM t),4,(DI t),3⟩ (.ret (.sl .lost yR.length (BL yR))) ⟨(DM t),4,(DI t),3⟩)) {t:Tr} {n:Nd} {yR:Ex} (h:E1 Ax Az At Aw Au Aq t n=some yR):Sound P G (.call 131 [.ptr 0 0,.agg (Bo n)] ⟨(DM t),4,(DI t),3⟩ (.ret (.agg (Er yR))) ⟨(DM t),4,(DI t),3⟩):=by
 unfold E1 at h
 refine CT Hd.mixed (Ay Tryz.func131 aey ?_)
 revert h
 refine Ah fun y1 hy1=>?_
 rintro ⟨⟩
 exact Ao Hd.Aa _ _ [⟨.agg [.zi 5,.zi 0,.zs Ak,.zi 0,.sl .full 0 [],.sl .lost y1.length (BL y1)],.agg [.zi 5,.zi 0,.zs Ak,.zi 0,.sl .lost ([].length) (rows GY []),.sl .lost y1.length (BL y1)],(.wn (.g (.r (.r (.r (.r (.z (.r .nil)))))) .nil) (By.Dp (⟨5,0,Ak,(⟨0,[]⟩:Fn),y1⟩:Ex)))⟩] [Bc t.Af,Bq t.lines,Bq t.facts,bu (GK 0 1 2 1 2 3 t) (CB rfl rfl rfl rfl rfl rfl)] (Ag 300 [AG (EC (BN hy1) 0 1 2 3 0 1 2)]) (by kernel_rfl) .body
noncomputable def aeS:Code:=AY Tryz.f132
theorem aex:Tryz.f132.body=some aeS:=by kernel_rfl
noncomputable def D3 (Ax:Tr→Nd→Option Ex) (Az:Tr→Nd→Option Ex) (At:Tr→Nd→Option Ex) (Aw:Tr→Nd→Option Ex) (Au:Tr→Nd→Option Ex) (Aq:Tr→Nd→Option (List Ex)) (t:Tr) (n:Nd):Option Ex:=(Aq t n).bind fun y1=>(y1[0]?).bind fun x2=>(y1[1]?).bind fun x3=>cond (BC n.name.data.toList IP.data.toList) (some (⟨6,0,Ak,(⟨0,[]⟩:Fn),y1⟩:Ex)) (cond (BC n.name.data.toList Um.data.toList) (some (⟨7,0,Ak,(⟨0,[]⟩:Fn),y1⟩:Ex)) (cond (BC n.name.data.toList I2.data.toList) (some (⟨8,0,Ak,(⟨0,[]⟩:Fn),y1⟩:Ex)) (cond (BC n.name.data.toList Iw.data.toList) (some (⟨5,0,Ak,(⟨0,[]⟩:Fn),[(⟨8,0,Ak,(⟨0,[]⟩:Fn),y1⟩:Ex)]⟩:Ex)) (cond (BC n.name.data.toList PK.data.toList) (some (⟨9,0,Ak,(⟨0,[]⟩:Fn),y1⟩:Ex)) (cond (BC n.name.data.toList Ix.data.toList) (some (⟨10,0,Ak,(⟨0,[]⟩:Fn),y1⟩:Ex)) (cond (BC n.name.data.toList K5.data.toList) (some (⟨11,0,x2.unit,(⟨0,[]⟩:Fn),y1⟩:Ex)) (cond (BC n.name.data.toList Pe.data.toList) (some (⟨12,0,x2.unit,(⟨0,[]⟩:Fn),y1⟩:Ex)) (cond (BC n.name.data.toList Kf.data.toList) (some (⟨14,0,x2.unit,(⟨0,[]⟩:Fn),y1⟩:Ex)) (cond (BC n.name.data.toList PY.data.toList) ((CG x2.unit x3.unit).bind fun y4=>some (⟨13,0,y4,(⟨0,[]⟩:Fn),y1⟩:Ex)) (cond (BC n.name.data.toList U0.data.toList) (some (⟨15,0,x3.unit,(⟨0,[]⟩:Fn),y1⟩:Ex)) (some (⟨0,0,Ak,(⟨0,[]⟩:Fn),y1⟩:Ex))))))))))))
theorem Kj (Ax:Tr→Nd→Option Ex) (Az:Tr→Nd→Option Ex) (At:Tr→Nd→Option Ex) (Aw:Tr→Nd→Option Ex) (Au:Tr→Nd→Option Ex) (Aq:Tr→Nd→Option (List Ex)) (CJ:∀ {t:Tr} {n:Nd} {yR:Ex},Ax t n=some yR→Sound P G (.call 85 [.ptr 0 0,.agg (Bo n)] ⟨(DM t),4,(DI t),3⟩ (.ret (.agg (Er yR))) ⟨(DM t),4,(DI t),3⟩)) (CU:∀ {t:Tr} {n:Nd} {yR:Ex},Az t n=some yR→Sound P G (.call 131 [.ptr 0 0,.agg (Bo n)] ⟨(DM t),4,(DI t),3⟩ (.ret (.agg (Er yR))) ⟨(DM t),4,(DI t),3⟩)) (Cr:∀ {t:Tr} {n:Nd} {yR:Ex},At t n=some yR→Sound P G (.call 132 [.ptr 0 0,.agg (Bo n)] ⟨(DM t),4,(DI t),3⟩ (.ret (.agg (Er yR))) ⟨(DM t),4,(DI t),3⟩)) (CI:∀ {t:Tr} {n:Nd} {yR:Ex},Aw t n=some yR→Sound P G (.call 133 [.ptr 0 0,.agg (Bo n)] ⟨(DM t),4,(DI t),3⟩ (.ret (.agg (Er yR))) ⟨(DM t),4,(DI t),3⟩)) (CA:∀ {t:Tr} {n:Nd} {yR:Ex},Au t n=some yR→Sound P G (.call 134 [.ptr 0 0,.agg (Bo n)] ⟨(DM t),4,(DI t),3⟩ (.ret (.agg (Er yR))) ⟨(DM t),4,(DI t),3⟩)) (BN:∀ {t:Tr} {n:Nd} {yR:(List Ex)},Aq t n=some yR→Sound P G (.call 166 [.ptr 0 0,.agg (Bo n)] ⟨(DM t),4,(DI t),3⟩ (.ret (.sl .lost yR.length (BL yR))) ⟨(DM t),4,(DI t),3⟩)) {t:Tr} {n:Nd} {yR:Ex} (h:D3 Ax Az At Aw Au Aq t n=some yR):Sound P G (.call 132 [.ptr 0 0,.agg (Bo n)] ⟨(DM t),4,(DI t),3⟩ (.ret (.agg (Er yR))) ⟨(DM t),4,(DI t),3⟩):=by
 unfold D3 at h
 refine CT Hd.mixed (Ay Tryz.func132 aex ?_)
 revert h
 refine Ah fun y1 hy1=>?_
 refine Ah fun x2 hx2=>?_
 refine Ah fun x3 hx3=>?_
 let o1:LP:=[AG (EC (BN hy1) 0 1 2 3 0 1 2),BT (No .lost hx2),BT (No .lost hx3)]
 refine Ad (fun hb1=>?_) fun hb1=>?_
 rintro ⟨⟩
 exact Ao Hd.Aa _ _ [⟨.agg [.zi 6,.zi 0,.zs Ak,.zi 0,.sl .full 0 [],.sl .lost y1.length (BL y1)],.agg [.zi 6,.zi 0,.zs Ak,.zi 0,.sl .lost ([].length) (rows GY []),.sl .lost y1.length (BL y1)],(.wn (.g (.r (.r (.r (.r (.z (.r .nil)))))) .nil) (By.Dp (⟨6,0,Ak,(⟨0,[]⟩:Fn),y1⟩:Ex)))⟩] [Bc t.Af,Bq t.lines,Bq t.facts,bu (GK 0 1 2 1 2 3 t) (CB rfl rfl rfl rfl rfl rfl)] (Ag 300 (o1++[pb hb1])) (by kernel_rfl) .body
 let o2:LP:=o1++[pb hb1]
 refine Ad (fun hb2=>?_) fun hb2=>?_
 rintro ⟨⟩
 exact Ao Hd.Aa _ _ [⟨.agg [.zi 7,.zi 0,.zs Ak,.zi 0,.sl .full 0 [],.sl .lost y1.length (BL y1)],.agg [.zi 7,.zi 0,.zs Ak,.zi 0,.sl .lost ([].length) (rows GY []),.sl .lost y1.length (BL y1)],(.wn (.g (.r (.r (.r (.r (.z (.r .nil)))))) .nil) (By.Dp (⟨7,0,Ak,(⟨0,[]⟩:Fn),y1⟩:Ex)))⟩] [Bc t.Af,Bq t.lines,Bq t.facts,bu (GK 0 1 2 1 2 3 t) (CB rfl rfl rfl rfl rfl rfl)] (Ag 300 (o2++[pb hb2])) (by kernel_rfl) .body
 refine Ad (fun hb3=>?_) fun hb3=>?_
 rintro ⟨⟩
 exact Ao Hd.Aa _ _ [⟨.agg [.zi 8,.zi 0,.zs Ak,.zi 0,.sl .full 0 [],.sl .lost y1.length (BL y1)],.agg [.zi 8,.zi 0,.zs Ak,.zi 0,.sl .lost ([].length) (rows GY []),.sl .lost y1.length (BL y1)],(.wn (.g (.r (.r (.r (.r (.z (.r .nil)))))) .nil) (By.Dp (⟨8,0,Ak,(⟨0,[]⟩:Fn),y1⟩:Ex)))⟩] [Bc t.Af,Bq t.lines,Bq t.facts,bu (GK 0 1 2 1 2 3 t) (CB rfl rfl rfl rfl rfl rfl)] (Ag 300 (o2++[pb hb2,pb hb3])) (by kernel_rfl) .body
 let o3:LP:=o2++[pb hb2,pb hb3]
 refine Ad (fun hb4=>?_) fun hb4=>?_
 rintro ⟨⟩
 exact Ao Hd.Aa _ _ [⟨.agg [.zi 5,.zi 0,.zs Ak,.zi 0,.sl .full 0 [],.sl .full 1 [.zi 8,.zi 0,.zs Ak,.zi 0,.sl .full 0 [],.sl .lost y1.length (BL y1)]],.agg [.zi 5,.zi 0,.zs Ak,.zi 0,.sl .lost ([].length) (rows GY []),.sl .lost ([(⟨8,0,Ak,(⟨0,[]⟩:Fn),y1⟩:Ex)].length) (BL [(⟨8,0,Ak,(⟨0,[]⟩:Fn),y1⟩:Ex)])],(.wn (.g (.r (.r (.r (.r (.z (.d (.r (.r (.r (.r (.z (.r .nil)))))) (By.eq [(⟨8,0,Ak,(⟨0,[]⟩:Fn),y1⟩:Ex)]).symm .nil)))))) .nil) (By.Dp (⟨5,0,Ak,(⟨0,[]⟩:Fn),[(⟨8,0,Ak,(⟨0,[]⟩:Fn),y1⟩:Ex)]⟩:Ex)))⟩] [Bc t.Af,Bq t.lines,Bq t.facts,bu (GK 0 1 2 1 2 3 t) (CB rfl rfl rfl rfl rfl rfl)] (Ag 300 (o3++[pb hb4])) (by kernel_rfl) .body
 refine Ad (fun hb5=>?_) fun hb5=>?_
 rintro ⟨⟩
 exact Ao Hd.Aa _ _ [⟨.agg [.zi 9,.zi 0,.zs Ak,.zi 0,.sl .full 0 [],.sl .lost y1.length (BL y1)],.agg [.zi 9,.zi 0,.zs Ak,.zi 0,.sl .lost ([].length) (rows GY []),.sl .lost y1.length (BL y1)],(.wn (.g (.r (.r (.r (.r (.z (.r .nil)))))) .nil) (By.Dp (⟨9,0,Ak,(⟨0,[]⟩:Fn),y1⟩:Ex)))⟩] [Bc t.Af,Bq t.lines,Bq t.facts,bu (GK 0 1 2 1 2 3 t) (CB rfl rfl rfl rfl rfl rfl)] (Ag 300 (o3++[pb hb4,pb hb5])) (by kernel_rfl) .body
 let o4:LP:=o3++[pb hb4,pb hb5]
 refine Ad (fun hb6=>?_) fun hb6=>?_
 rintro ⟨⟩
 exact Ao Hd.Aa _ _ [⟨.agg [.zi 10,.zi 0,.zs Ak,.zi 0,.sl .full 0 [],.sl .lost y1.length (BL y1)],.agg [.zi 10,.zi 0,.zs Ak,.zi 0,.sl .lost ([].length) (rows GY []),.sl .lost y1.length (BL y1)],(.wn (.g (.r (.r (.r (.r (.z (.r .nil)))))) .nil) (By.Dp (⟨10,0,Ak,(⟨0,[]⟩:Fn),y1⟩:Ex)))⟩] [Bc t.Af,Bq t.lines,Bq t.facts,bu (GK 0 1 2 1 2 3 t) (CB rfl rfl rfl rfl rfl rfl)] (Ag 300 (o4++[pb hb6])) (by kernel_rfl) .body
 refine Ad (fun hb7=>?_) fun hb7=>?_
 rintro ⟨⟩
 exact Ao Hd.Aa _ _ [⟨.agg [.zi 11,.zi 0,.zs x2.unit,.zi 0,.sl .full 0 [],.sl .lost y1.length (BL y1)],.agg [.zi 11,.zi 0,.zs x2.unit,.zi 0,.sl .lost ([].length) (rows GY []),.sl .lost y1.length (BL y1)],(.wn (.g (.r (.r (.r (.r (.z (.r .nil)))))) .nil) (By.Dp (⟨11,0,x2.unit,(⟨0,[]⟩:Fn),y1⟩:Ex)))⟩] [Bc t.Af,Bq t.lines,Bq t.facts,bu (GK 0 1 2 1 2 3 t) (CB rfl rfl rfl rfl rfl rfl)] (Ag 300 (o4++[pb hb6,pb hb7])) (by kernel_rfl) .body
 refine Ad (fun hb8=>?_) fun hb8=>?_
 rintro ⟨⟩
 exact Ao Hd.Aa _ _ [⟨.agg [.zi 12,.zi 0,.zs x2.unit,.zi 0,.sl .full 0 [],.sl .lost y1.length (BL y1)],.agg [.zi 12,.zi 0,.zs x2.unit,.zi 0,.sl .lost ([].length) (rows GY []),.sl .lost y1.length (BL y1)],(.wn (.g (.r (.r (.r (.r (.z (.r .nil)))))) .nil) (By.Dp (⟨12,0,x2.unit,(⟨0,[]⟩:Fn),y1⟩:Ex)))⟩] [Bc t.Af,Bq t.lines,Bq t.facts,bu (GK 0 1 2 1 2 3 t) (CB rfl rfl rfl rfl rfl rfl)] (Ag 300 (o4++[pb hb6,pb hb7,pb hb8])) (by kernel_rfl) .body
 refine Ad (fun hb9=>?_) fun hb9=>?_
 rintro ⟨⟩
 exact Ao Hd.Aa _ _ [⟨.agg [.zi 14,.zi 0,.zs x2.unit,.zi 0,.sl .full 0 [],.sl .lost y1.length (BL y1)],.agg [.zi 14,.zi 0,.zs x2.unit,.zi 0,.sl .lost ([].length) (rows GY []),.sl .lost y1.length (BL y1)],(.wn (.g (.r (.r (.r (.r (.z (.r .nil)))))) .nil) (By.Dp (⟨14,0,x2.unit,(⟨0,[]⟩:Fn),y1⟩:Ex)))⟩] [Bc t.Af,Bq t.lines,Bq t.facts,bu (GK 0 1 2 1 2 3 t) (CB rfl rfl rfl rfl rfl rfl)] (Ag 300 (o4++[pb hb6,pb hb7,pb hb8,pb hb9])) (by kernel_rfl) .body
 refine Ad (fun hb10=>?_) fun hb10=>?_
 refine Ah fun y4 hy4=>?_
 rintro ⟨⟩
 exact Ao Hd.Aa _ _ [⟨.agg [.zi 13,.zi 0,.zs y4,.zi 0,.sl .full 0 [],.sl .lost y1.length (BL y1)],.agg [.zi 13,.zi 0,.zs y4,.zi 0,.sl .lost ([].length) (rows GY []),.sl .lost y1.length (BL y1)],(.wn (.g (.r (.r (.r (.r (.z (.r .nil)))))) .nil) (By.Dp (⟨13,0,y4,(⟨0,[]⟩:Fn),y1⟩:Ex)))⟩] [Bc t.Af,Bq t.lines,Bq t.facts,bu (GK 0 1 2 1 2 3 t) (CB rfl rfl rfl rfl rfl rfl)] (Ag 300 (o4++[pb hb6,pb hb7,pb hb8,pb hb9,pb hb10,An (Fv hy4)])) (by kernel_rfl) .body
 refine Ad (fun hb11=>?_) fun hb11=>?_
 rintro ⟨⟩
 exact Ao Hd.Aa _ _ [⟨.agg [.zi 15,.zi 0,.zs x3.unit,.zi 0,.sl .full 0 [],.sl .lost y1.length (BL y1)],.agg [.zi 15,.zi 0,.zs x3.unit,.zi 0,.sl .lost ([].length) (rows GY []),.sl .lost y1.length (BL y1)],(.wn (.g (.r (.r (.r (.r (.z (.r .nil)))))) .nil) (By.Dp (⟨15,0,x3.unit,(⟨0,[]⟩:Fn),y1⟩:Ex)))⟩] [Bc t.Af,Bq t.lines,Bq t.facts,bu (GK 0 1 2 1 2 3 t) (CB rfl rfl rfl rfl rfl rfl)] (Ag 300 (o4++[pb hb6,pb hb7,pb hb8,pb hb9,pb hb10,pb hb11])) (by kernel_rfl) .body
 rintro ⟨⟩
 exact Ao Hd.Aa _ _ [⟨.agg [.zi 0,.zi 0,.zs Ak,.zi 0,.sl .full 0 [],.sl .lost y1.length (BL y1)],.agg [.zi 0,.zi 0,.zs Ak,.zi 0,.sl .lost ([].length) (rows GY []),.sl .lost y1.length (BL y1)],(.wn (.g (.r (.r (.r (.r (.z (.r .nil)))))) .nil) (By.Dp (⟨0,0,Ak,(⟨0,[]⟩:Fn),y1⟩:Ex)))⟩] [Bc t.Af,Bq t.lines,Bq t.facts,bu (GK 0 1 2 1 2 3 t) (CB rfl rfl rfl rfl rfl rfl)] (Ag 300 (o4++[pb hb6,pb hb7,pb hb8,pb hb9,pb hb10,pb hb11])) (by kernel_rfl) .body
noncomputable def afe:Code:=AY Tryz.f133
theorem adJ:Tryz.f133.body=some afe:=by kernel_rfl
noncomputable def EJ (Ax:Tr→Nd→Option Ex) (Az:Tr→Nd→Option Ex) (At:Tr→Nd→Option Ex) (Aw:Tr→Nd→Option Ex) (Au:Tr→Nd→Option Ex) (Aq:Tr→Nd→Option (List Ex)) (t:Tr) (n:Nd):Option Ex:=(Aq t n).bind fun y1=>(y1[0]?).bind fun x2=>cond (BC n.name.data.toList Ec.data.toList) (some (⟨17,0,x2.unit,(⟨0,[]⟩:Fn),y1⟩:Ex)) (some (⟨16,0,x2.unit,(⟨0,[]⟩:Fn),y1⟩:Ex))
theorem K9 (Ax:Tr→Nd→Option Ex) (Az:Tr→Nd→Option Ex) (At:Tr→Nd→Option Ex) (Aw:Tr→Nd→Option Ex) (Au:Tr→Nd→Option Ex) (Aq:Tr→Nd→Option (List Ex)) (CJ:∀ {t:Tr} {n:Nd} {yR:Ex},Ax t n=some yR→Sound P G (.call 85 [.ptr 0 0,.agg (Bo n)] ⟨(DM t),4,(DI t),3⟩ (.ret (.agg (Er yR))) ⟨(DM t),4,(DI t),3⟩)) (CU:∀ {t:Tr} {n:Nd} {yR:Ex},Az t n=some yR→Sound P G (.call 131 [.ptr 0 0,.agg (Bo n)] ⟨(DM t),4,(DI t),3⟩ (.ret (.agg (Er yR))) ⟨(DM t),4,(DI t),3⟩)) (Cr:∀ {t:Tr} {n:Nd} {yR:Ex},At t n=some yR→Sound P G (.call 132 [.ptr 0 0,.agg (Bo n)] ⟨(DM t),4,(DI t),3⟩ (.ret (.agg (Er yR))) ⟨(DM t),4,(DI t),3⟩)) (CI:∀ {t:Tr} {n:Nd} {yR:Ex},Aw t n=some yR→Sound P G (.call 133 [.ptr 0 0,.agg (Bo n)] ⟨(DM t),4,(DI t),3⟩ (.ret (.agg (Er yR))) ⟨(DM t),4,(DI t),3⟩)) (CA:∀ {t:Tr} {n:Nd} {yR:Ex},Au t n=some yR→Sound P G (.call 134 [.ptr 0 0,.agg (Bo n)] ⟨(DM t),4,(DI t),3⟩ (.ret (.agg (Er yR))) ⟨(DM t),4,(DI t),3⟩)) (BN:∀ {t:Tr} {n:Nd} {yR:(List Ex)},Aq t n=some yR→Sound P G (.call 166 [.ptr 0 0,.agg (Bo n)] ⟨(DM t),4,(DI t),3⟩ (.ret (.sl .lost yR.length (BL yR))) ⟨(DM t),4,(DI t),3⟩)) {t:Tr} {n:Nd} {yR:Ex} (h:EJ Ax Az At Aw Au Aq t n=some yR):Sound P G (.call 133 [.ptr 0 0,.agg (Bo n)] ⟨(DM t),4,(DI t),3⟩ (.ret (.agg (Er yR))) ⟨(DM t),4,(DI t),3⟩):=by
 unfold EJ at h
 refine CT Hd.mixed (Ay Tryz.func133 adJ ?_)
 revert h
 refine Ah fun y1 hy1=>?_
 refine Ah fun x2 hx2=>?_
 let o1:LP:=[AG (EC (BN hy1) 0 1 2 3 0 1 2),BT (No .lost hx2)]
 refine Ad (fun hb1=>?_) fun hb1=>?_
 rintro ⟨⟩
 exact Ao Hd.Aa _ _ [⟨.agg [.zi 17,.zi 0,.zs x2.unit,.zi 0,.sl .full 0 [],.sl .lost y1.length (BL y1)],.agg [.zi 17,.zi 0,.zs x2.unit,.zi 0,.sl .lost ([].length) (rows GY []),.sl .lost y1.length (BL y1)],(.wn (.g (.r (.r (.r (.r (.z (.r .nil)))))) .nil) (By.Dp (⟨17,0,x2.unit,(⟨0,[]⟩:Fn),y1⟩:Ex)))⟩] [Bc t.Af,Bq t.lines,Bq t.facts,bu (GK 0 1 2 1 2 3 t) (CB rfl rfl rfl rfl rfl rfl)] (Ag 300 (o1++[pb hb1])) (by kernel_rfl) .body
 rintro ⟨⟩
 exact Ao Hd.Aa _ _ [⟨.agg [.zi 16,.zi 0,.zs x2.unit,.zi 0,.sl .full 0 [],.sl .lost y1.length (BL y1)],.agg [.zi 16,.zi 0,.zs x2.unit,.zi 0,.sl .lost ([].length) (rows GY []),.sl .lost y1.length (BL y1)],(.wn (.g (.r (.r (.r (.r (.z (.r .nil)))))) .nil) (By.Dp (⟨16,0,x2.unit,(⟨0,[]⟩:Fn),y1⟩:Ex)))⟩] [Bc t.Af,Bq t.lines,Bq t.facts,bu (GK 0 1 2 1 2 3 t) (CB rfl rfl rfl rfl rfl rfl)] (Ag 300 (o1++[pb hb1])) (by kernel_rfl) .body
noncomputable def aeC:Code:=AY Tryz.f134
theorem aeO:Tryz.f134.body=some aeC:=by kernel_rfl
noncomputable def Eh (Ax:Tr→Nd→Option Ex) (Az:Tr→Nd→Option Ex) (At:Tr→Nd→Option Ex) (Aw:Tr→Nd→Option Ex) (Au:Tr→Nd→Option Ex) (Aq:Tr→Nd→Option (List Ex)) (t:Tr) (n:Nd):Option Ex:=(Aq t n).bind fun y1=>(KH n.tab.ps).bind fun y2=>(y1[0]?).bind fun x3=>some (⟨18,0,x3.unit,(⟨n.tab.den,y2⟩:Fn),y1⟩:Ex)
theorem KL (Ax:Tr→Nd→Option Ex) (Az:Tr→Nd→Option Ex) (At:Tr→Nd→Option Ex) (Aw:Tr→Nd→Option Ex) (Au:Tr→Nd→Option Ex) (Aq:Tr→Nd→Option (List Ex)) (CJ:∀ {t:Tr} {n:Nd} {yR:Ex},Ax t n=some yR→Sound P G (.call 85 [.ptr 0 0,.agg (Bo n)] ⟨(DM t),4,(DI t),3⟩ (.ret (.agg (Er yR))) ⟨(DM t),4,(DI t),3⟩)) (CU:∀ {t:Tr} {n:Nd} {yR:Ex},Az t n=some yR→Sound P G (.call 131 [.ptr 0 0,.agg (Bo n)] ⟨(DM t),4,(DI t),3⟩ (.ret (.agg (Er yR))) ⟨(DM t),4,(DI t),3⟩)) (Cr:∀ {t:Tr} {n:Nd} {yR:Ex},At t n=some yR→Sound P G (.call 132 [.ptr 0 0,.agg (Bo n)] ⟨(DM t),4,(DI t),3⟩ (.ret (.agg (Er yR))) ⟨(DM t),4,(DI t),3⟩)) (CI:∀ {t:Tr} {n:Nd} {yR:Ex},Aw t n=some yR→Sound P G (.call 133 [.ptr 0 0,.agg (Bo n)] ⟨(DM t),4,(DI t),3⟩ (.ret (.agg (Er yR))) ⟨(DM t),4,(DI t),3⟩)) (CA:∀ {t:Tr} {n:Nd} {yR:Ex},Au t n=some yR→Sound P G (.call 134 [.ptr 0 0,.agg (Bo n)] ⟨(DM t),4,(DI t),3⟩ (.ret (.agg (Er yR))) ⟨(DM t),4,(DI t),3⟩)) (BN:∀ {t:Tr} {n:Nd} {yR:(List Ex)},Aq t n=some yR→Sound P G (.call 166 [.ptr 0 0,.agg (Bo n)] ⟨(DM t),4,(DI t),3⟩ (.ret (.sl .lost yR.length (BL yR))) ⟨(DM t),4,(DI t),3⟩)) {t:Tr} {n:Nd} {yR:Ex} (h:Eh Ax Az At Aw Au Aq t n=some yR):Sound P G (.call 134 [.ptr 0 0,.agg (Bo n)] ⟨(DM t),4,(DI t),3⟩ (.ret (.agg (Er yR))) ⟨(DM t),4,(DI t),3⟩):=by
 unfold Eh at h
 refine CT Hd.mixed (Ay Tryz.func134 aeO ?_)
 revert h
 refine Ah fun y1 hy1=>?_
 refine Ah fun y2 hy2=>?_
 refine Ah fun x3 hx3=>?_
 rintro ⟨⟩
 exact Ao Hd.Aa _ _ [⟨.agg [.zi 18,.zi 0,.zs x3.unit,.zi n.tab.den,.sl .lost y2.length (rows GY y2),.sl .lost y1.length (BL y1)],.agg [.zi 18,.zi 0,.zs x3.unit,.zi n.tab.den,.sl .lost y2.length (rows GY y2),.sl .lost y1.length (BL y1)],(.plain (By.Dp (⟨18,0,x3.unit,(⟨n.tab.den,y2⟩:Fn),y1⟩:Ex)))⟩] [Bc t.Af,Bq t.lines,Bq t.facts,bu (GK 0 1 2 1 2 3 t) (CB rfl rfl rfl rfl rfl rfl)] (Ag 300 [AG (EC (BN hy1) 0 1 2 3 0 1 2),An (Rz hy2),pz 7,BT (No .lost hx3)]) (by kernel_rfl) .body
noncomputable def zU:Code:=AY Tryz.f166
theorem adN:Tryz.f166.body=some zU:=by kernel_rfl
noncomputable def El (Ax:Tr→Nd→Option Ex) (Az:Tr→Nd→Option Ex) (At:Tr→Nd→Option Ex) (Aw:Tr→Nd→Option Ex) (Au:Tr→Nd→Option Ex) (Aq:Tr→Nd→Option (List Ex)) (t:Tr) (i0:Nat) (e0:Nd) (list5:(List Ex)):Option (Lp (List Ex) (List Ex) (List Ex)):=(Ax t e0).bind fun y2=>Lt (list5.length+1) (some (.nx (list5++[y2])))
noncomputable def EF (Ax:Tr→Nd→Option Ex) (Az:Tr→Nd→Option Ex) (At:Tr→Nd→Option Ex) (Aw:Tr→Nd→Option Ex) (Au:Tr→Nd→Option Ex) (Aq:Tr→Nd→Option (List Ex)) (t:Tr) (n:Nd):Option (List Ex):=(GW n.kids.length (AL (fun i y x=>El Ax Az At Aw Au Aq t i y x) (fun x=>x) (n.kids.drop 0) 0 [])).bind (GQ (fun (list5_4:(List Ex))=>some list5_4) (fun v=>some v))
theorem La (Ax:Tr→Nd→Option Ex) (Az:Tr→Nd→Option Ex) (At:Tr→Nd→Option Ex) (Aw:Tr→Nd→Option Ex) (Au:Tr→Nd→Option Ex) (Aq:Tr→Nd→Option (List Ex)) (CJ:∀ {t:Tr} {n:Nd} {yR:Ex},Ax t n=some yR→Sound P G (.call 85 [.ptr 0 0,.agg (Bo n)] ⟨(DM t),4,(DI t),3⟩ (.ret (.agg (Er yR))) ⟨(DM t),4,(DI t),3⟩)) (CU:∀ {t:Tr} {n:Nd} {yR:Ex},Az t n=some yR→Sound P G (.call 131 [.ptr 0 0,.agg (Bo n)] ⟨(DM t),4,(DI t),3⟩ (.ret (.agg (Er yR))) ⟨(DM t),4,(DI t),3⟩)) (Cr:∀ {t:Tr} {n:Nd} {yR:Ex},At t n=some yR→Sound P G (.call 132 [.ptr 0 0,.agg (Bo n)] ⟨(DM t),4,(DI t),3⟩ (.ret (.agg (Er yR))) ⟨(DM t),4,(DI t),3⟩)) (CI:∀ {t:Tr} {n:Nd} {yR:Ex},Aw t n=some yR→Sound P G (.call 133 [.ptr 0 0,.agg (Bo n)] ⟨(DM t),4,(DI t),3⟩ (.ret (.agg (Er yR))) ⟨(DM t),4,(DI t),3⟩)) (CA:∀ {t:Tr} {n:Nd} {yR:Ex},Au t n=some yR→Sound P G (.call 134 [.ptr 0 0,.agg (Bo n)] ⟨(DM t),4,(DI t),3⟩ (.ret (.agg (Er yR))) ⟨(DM t),4,(DI t),3⟩)) (BN:∀ {t:Tr} {n:Nd} {yR:(List Ex)},Aq t n=some yR→Sound P G (.call 166 [.ptr 0 0,.agg (Bo n)] ⟨(DM t),4,(DI t),3⟩ (.ret (.sl .lost yR.length (BL yR))) ⟨(DM t),4,(DI t),3⟩)) {t:Tr} {n:Nd} {yR:(List Ex)} (h:EF Ax Az At Aw Au Aq t n=some yR):Sound P G (.call 166 [.ptr 0 0,.agg (Bo n)] ⟨(DM t),4,(DI t),3⟩ (.ret (.sl .lost yR.length (BL yR))) ⟨(DM t),4,(DI t),3⟩):=by
 unfold EF at h
 refine CT Hd.mixed (Ay Tryz.func166 adN ?_)
 revert h
 refine DF (fun Q v=>Iu P G Tryz.f166 4 ⟨(DM t),4,(DI t),3⟩ Q (.sl .lost v.length (BL v)) ⟨(DM t),4,(DI t),3⟩) (fun i0 (list5:(List Ex)) (j0:List Value)=>fr 23 [(0,.ptr 0 0),(5,.sl (.row 3 6) list5.length (BL list5)),(9,.sl .lost n.kids.length (Cg n.kids)),(10,.zi ((n.kids.length:Nat):Int)),(11,.zi ((i0:Nat):Int))] [12] j0) (fun (list5:(List Ex))=>⟨[(4,.cells (Bo n)),(3,(BA t.Af)),(2,(Bz t.lines)),(1,(Bz t.facts)),(0,.cells (GK 0 1 2 1 2 3 t))],5,[(3,list5.length),(0,t.codex.facts.length),(1,t.codex.lines.length),(2,t.codex.arts.length)],4⟩) (fun (list5:(List Ex)) (jx:List Value)=>fr 23 [(5,.sl (.row 3 6) list5.length (BL list5))] [12] jx) (fun (list5:(List Ex))=>⟨[(4,.cells (Bo n)),(3,(BA t.Af)),(2,(Bz t.lines)),(1,(Bz t.facts)),(0,.cells (GK 0 1 2 1 2 3 t))],5,[(3,list5.length),(0,t.codex.facts.length),(1,t.codex.lines.length),(2,t.codex.arts.length)],4⟩) [] (Dq [.t 5 6] 0 (sb zU 116) [.code (sb zU 15)] (Ag 300 []) (by kernel_rfl)) ?_ ?_ ?_ (fun v h=>by cases h;exact .outer .body)
 rintro i0 list5 j0 hge hq
 exact B1 (Ag 300 [pb (IJ hge)]) (by kernel_rfl) (hq [bF])
 rintro i0 e0 list5 j0 r he0 hi0 mi0 k
 show El Ax Az At Aw Au Aq t i0 e0 list5=some r→_
 unfold El
 refine Ah fun y2 hy2=>?_
 refine Kz fun hl3=>?_
 rintro ⟨⟩
 exact Bt Hd.Aa [⟨.sl (.row 3 6) ((list5++[y2]).length) (BL (list5++[y2])),.sl (.row 3 6) ((list5++[y2]).length) (BL (list5++[y2])),(.under (CC rfl (Aj _ _ (By.AW (list5++[y2])))))⟩,fq (Am.Bk n.kids)] [bp (Am.pl n),Bc t.Af,Bq t.lines,Bq t.facts,bu (GK 0 1 2 1 2 3 t) (CB rfl rfl rfl rfl rfl rfl)] (Ag 300 [pb (Fk hi0),BT (BQ .lost he0),AG (IL (CJ hy2) 0 1 2 3 0 1 2),Nk (aA (.row 3 6) list5 [y2] (o:=.full) (n:=1) (ns:=(Er y2)) (By.wn [y2] (.r (.r (.r (.r (.r (.r .nil))))))) rfl rfl (by simp) (by simpa using hl3)),pi mi0]) (by kernel_rfl) (k [bT])
 rintro list5_4 jx_4
 refine sJ ?_
 rintro rfl
 exact Ao Hd.Aa _ _ [⟨.sl (.row 3 6) list5_4.length (BL list5_4),.sl .lost list5_4.length (BL list5_4),(.wn (.s rfl .nil) (By.Bk list5_4))⟩] [Bc t.Af,Bq t.lines,Bq t.facts,bu (GK 0 1 2 1 2 3 t) (CB rfl rfl rfl rfl rfl rfl)] (BJ 300 []) (by kernel_rfl) .body
mutual
noncomputable def AT:Nat→Tr→Nd→Option Ex
 | 0,_,_=>none
 | qn+1,t,n=>EK (AT qn) (Ba qn) (A3 qn) (A7 qn) (A6 qn) (A1 qn) t n
noncomputable def Ba:Nat→Tr→Nd→Option Ex
 | 0,_,_=>none
 | qn+1,t,n=>E1 (AT qn) (Ba qn) (A3 qn) (A7 qn) (A6 qn) (A1 qn) t n
noncomputable def A3:Nat→Tr→Nd→Option Ex
 | 0,_,_=>none
 | qn+1,t,n=>D3 (AT qn) (Ba qn) (A3 qn) (A7 qn) (A6 qn) (A1 qn) t n
noncomputable def A7:Nat→Tr→Nd→Option Ex
 | 0,_,_=>none
 | qn+1,t,n=>EJ (AT qn) (Ba qn) (A3 qn) (A7 qn) (A6 qn) (A1 qn) t n
noncomputable def A6:Nat→Tr→Nd→Option Ex
 | 0,_,_=>none
 | qn+1,t,n=>Eh (AT qn) (Ba qn) (A3 qn) (A7 qn) (A6 qn) (A1 qn) t n
noncomputable def A1:Nat→Tr→Nd→Option (List Ex)
 | 0,_,_=>none
 | qn+1,t,n=>EF (AT qn) (Ba qn) (A3 qn) (A7 qn) (A6 qn) (A1 qn) t n
end
theorem Ln:∀ qn:Nat,(∀ {t:Tr} {n:Nd} {yR:Ex},AT qn t n=some yR→Sound P G (.call 85 [.ptr 0 0,.agg (Bo n)] ⟨(DM t),4,(DI t),3⟩ (.ret (.agg (Er yR))) ⟨(DM t),4,(DI t),3⟩))∧(∀ {t:Tr} {n:Nd} {yR:Ex},Ba qn t n=some yR→Sound P G (.call 131 [.ptr 0 0,.agg (Bo n)] ⟨(DM t),4,(DI t),3⟩ (.ret (.agg (Er yR))) ⟨(DM t),4,(DI t),3⟩))∧(∀ {t:Tr} {n:Nd} {yR:Ex},A3 qn t n=some yR→Sound P G (.call 132 [.ptr 0 0,.agg (Bo n)] ⟨(DM t),4,(DI t),3⟩ (.ret (.agg (Er yR))) ⟨(DM t),4,(DI t),3⟩))∧(∀ {t:Tr} {n:Nd} {yR:Ex},A7 qn t n=some yR→Sound P G (.call 133 [.ptr 0 0,.agg (Bo n)] ⟨(DM t),4,(DI t),3⟩ (.ret (.agg (Er yR))) ⟨(DM t),4,(DI t),3⟩))∧(∀ {t:Tr} {n:Nd} {yR:Ex},A6 qn t n=some yR→Sound P G (.call 134 [.ptr 0 0,.agg (Bo n)] ⟨(DM t),4,(DI t),3⟩ (.ret (.agg (Er yR))) ⟨(DM t),4,(DI t),3⟩))∧(∀ {t:Tr} {n:Nd} {yR:(List Ex)},A1 qn t n=some yR→Sound P G (.call 166 [.ptr 0 0,.agg (Bo n)] ⟨(DM t),4,(DI t),3⟩ (.ret (.sl .lost yR.length (BL yR))) ⟨(DM t),4,(DI t),3⟩)):=by
 intro qn
 induction qn with
 | zero=>exact ⟨(fun h=>by simp only [AT] at h;cases h),(fun h=>by simp only [Ba] at h;cases h),(fun h=>by simp only [A3] at h;cases h),(fun h=>by simp only [A7] at h;cases h),(fun h=>by simp only [A6] at h;cases h),(fun h=>by simp only [A1] at h;cases h)⟩
 | succ qn ih=>exact ⟨(fun h=>K3 (AT qn) (Ba qn) (A3 qn) (A7 qn) (A6 qn) (A1 qn) ih.1 ih.2.1 ih.2.2.1 ih.2.2.2.1 ih.2.2.2.2.1 ih.2.2.2.2.2 (by rw [AT] at h;exact h)),(fun h=>Lo (AT qn) (Ba qn) (A3 qn) (A7 qn) (A6 qn) (A1 qn) ih.1 ih.2.1 ih.2.2.1 ih.2.2.2.1 ih.2.2.2.2.1 ih.2.2.2.2.2 (by rw [Ba] at h;exact h)),(fun h=>Kj (AT qn) (Ba qn) (A3 qn) (A7 qn) (A6 qn) (A1 qn) ih.1 ih.2.1 ih.2.2.1 ih.2.2.2.1 ih.2.2.2.2.1 ih.2.2.2.2.2 (by rw [A3] at h;exact h)),(fun h=>K9 (AT qn) (Ba qn) (A3 qn) (A7 qn) (A6 qn) (A1 qn) ih.1 ih.2.1 ih.2.2.1 ih.2.2.2.1 ih.2.2.2.2.1 ih.2.2.2.2.2 (by rw [A7] at h;exact h)),(fun h=>KL (AT qn) (Ba qn) (A3 qn) (A7 qn) (A6 qn) (A1 qn) ih.1 ih.2.1 ih.2.2.1 ih.2.2.2.1 ih.2.2.2.2.1 ih.2.2.2.2.2 (by rw [A6] at h;exact h)),(fun h=>La (AT qn) (Ba qn) (A3 qn) (A7 qn) (A6 qn) (A1 qn) ih.1 ih.2.1 ih.2.2.1 ih.2.2.2.1 ih.2.2.2.2.1 ih.2.2.2.2.2 (by rw [A1] at h;exact h))⟩
noncomputable def Gu (t:Tr) (n:Nd):Option Ex:=W5 (fun qn=>AT qn t n)
theorem LU {t:Tr} {n:Nd} {yR:Ex} (h:Gu t n=some yR):Sound P G (.call 85 [.ptr 0 0,.agg (Bo n)] ⟨(DM t),4,(DI t),3⟩ (.ret (.agg (Er yR))) ⟨(DM t),4,(DI t),3⟩):=by
 obtain ⟨qn,h⟩:=Ru h
 exact (Ln qn).1 h
noncomputable def B86:Code:=AY Tryz.f86
theorem b86:Tryz.f86.body=some B86:=by kernel_rfl
noncomputable def HJ (EM:Ex→Option (Int×Int))  (i0:Nat) (e0:Ex) (count4:Int) (depth5:Int):Option (Lp (Int×Int) (Int×Int) (Int×Int)):=(EM e0).bind fun (y1a,y1b)=>some (.nx ((BW count4 y1a),(acX depth5 y1b)))
noncomputable def Is (EM:Ex→Option (Int×Int)) (e:Ex):Option (Int×Int):=(GW e.kids.length (AL (fun i y x=>HJ EM  i y x.1 x.2) (fun x=>(x.1,x.2)) (e.kids.drop 0) 0 (1,0))).bind (GQ (fun ((count4_2,depth5_2):(Int×Int))=>some (count4_2,(BW depth5_2 1))) (fun v=>some v))
theorem OX (EM:Ex→Option (Int×Int)) (QZ:∀ {e:Ex} {yR:(Int×Int)},EM e=some yR→Pure P G 86 [.agg (Er e)] (.Bd [.zi yR.1,.zi yR.2])) {e:Ex} {yR:(Int×Int)} (h:Is EM e=some yR):Pure P G 86 [.agg (Er e)] (.Bd [.zi yR.1,.zi yR.2]):=by
 unfold Is at h
 refine BF Hd.mixed Hd.Aa (Ay Tryz.func86 b86 ?_) (AW (By.Dp e) rfl) (AW rfl (AW rfl rfl))
 revert h
 refine DF (fun Q v=>EQ P Tryz.f86 0 Q (.Bd [.zi v.1,.zi v.2])) (fun i0 ((count4,depth5):(Int×Int)) (j0:List Value)=>fr 32 [(4,.zi count4),(5,.zi depth5),(11,.sl .lost e.kids.length (BL e.kids)),(12,.zi ((e.kids.length:Nat):Int)),(13,.zi ((i0:Nat):Int))] [14] j0) (fun ((count4,depth5):(Int×Int))=>⟨[(0,.cells (Er e))],1,[],0⟩) (fun ((count4,depth5):(Int×Int)) (jx:List Value)=>fr 32 [(4,.zi count4),(5,.zi depth5)] [14] jx) (fun ((count4,depth5):(Int×Int))=>⟨[(0,.cells (Er e))],1,[],0⟩) [] (Dq [] 0 (sb B86 116) [.code (sb B86 15)] (Ag 300 []) (by kernel_rfl)) ?_ ?_ ?_ (fun v h=>by cases h;exact .outer .body)
 rintro i0 ⟨count4,depth5⟩ j0 hge hq
 exact B1 (Ag 300 [pb (IJ hge)]) (by kernel_rfl) (hq [bF])
 rintro i0 e0 ⟨count4,depth5⟩ j0 r he0 hi0 mi0 k
 show HJ EM  i0 e0 count4 depth5=some r→_
 unfold HJ
 refine Ah ?_
 rintro ⟨y1a,y1b⟩ hy1
 dsimp only
 rintro ⟨⟩
 exact Bt Hd.Aa [fq (By.Bk e.kids)] [bp (By.pl e)] (Ag 300 [pb (Fk hi0),BT (No .lost he0),An (QZ hy1),pk,pi mi0]) (by kernel_rfl) (k [bT])
 rintro ⟨count4_2,depth5_2⟩ jx_2
 dsimp only
 rintro ⟨⟩
 exact Ap _ _ (BJ 300 [pk]) (by kernel_rfl) .body (.plain (AW rfl (AW rfl rfl)))
noncomputable def DX:Nat→Ex→Option (Int×Int)
 | 0,_=>none
 | qn+1,e=>Is (DX qn) e
theorem PF:∀ qn:Nat,∀ {e:Ex} {yR:(Int×Int)},DX qn e=some yR→Pure P G 86 [.agg (Er e)] (.Bd [.zi yR.1,.zi yR.2]):=by
 intro qn
 induction qn with
 | zero=>exact (fun h=>by simp only [DX] at h;cases h)
 | succ qn ih=>exact (fun h=>OX (DX qn) ih (by rw [DX] at h;exact h))
noncomputable def Kg (e:Ex):Option (Int×Int):=W5 (fun qn=>DX qn e)
theorem Qy {e:Ex} {yR:(Int×Int)} (h:Kg e=some yR):Pure P G 86 [.agg (Er e)] (.Bd [.zi yR.1,.zi yR.2]):=by
 obtain ⟨qn,h⟩:=Ru h
 exact (PF qn) h
noncomputable def B48:Code:=AY Tryz.f48
theorem b48:Tryz.f48.body=some B48:=by kernel_rfl
noncomputable def DD   (i1:Nat) (e1:Nd) (w6_7:(List Int)):Option (Lp (List Int) (List Int) ((List Dg)×(List Ar))):=Lt (w6_7.length+1) (some (.nx (w6_7++[e1.n])))
noncomputable def DB  (t:Tr) (i0:Nat) (e0:Nd) (diags7:(List Dg)) (w6_7:(List Int)) (w6_6:(List Ex)) (w6_8:Int) (w6_9:Int) (w6_10:ByteArray) (w6_11:Int) (w6_12:(List Pc)) (w6_13:(List Ex)):Option (Lp ((List Dg)×(List Int)×(List Ex)×Int×Int×ByteArray×Int×(List Pc)×(List Ex)) ((List Dg)×(List Int)×(List Ex)×Int×Int×ByteArray×Int×(List Pc)×(List Ex)) ((List Dg)×(List Ar))):=cond (Bp e0.kind 7) ((GW e0.kids.length (AL (fun i y x=>DD   i y x) (fun x=>x) (e0.kids.drop 0) 0 w6_7)).bind (GQ (fun (w6_7_27:(List Int))=>some (.nx (diags7,w6_7_27,w6_6,w6_8,w6_9,w6_10,w6_11,w6_12,w6_13))) (fun v=>some (.rt v)))) ((e0.kids[0]?).bind fun x18=>(Gu t x18).bind fun y19=>(Kg y19).bind fun (y20a,y20b)=>cond (DH 400 y20a) (Lt (diags7.length+1) (cond (Bp e0.kind 6) (Lt (w6_6.length+1) (some (.nx ((diags7++[(⟨2,e0.att⟩:Dg)]),w6_7,(w6_6++[y19]),w6_8,w6_9,w6_10,w6_11,w6_12,w6_13)))) (some (.nx ((diags7++[(⟨2,e0.att⟩:Dg)]),w6_7,w6_6,y19.op,y19.n,y19.unit,y19.tab.den,y19.tab.ps,y19.kids))))) (cond (DH 40 y20b) (Lt (diags7.length+1) (cond (Bp e0.kind 6) (Lt (w6_6.length+1) (some (.nx ((diags7++[(⟨2,e0.att⟩:Dg)]),w6_7,(w6_6++[y19]),w6_8,w6_9,w6_10,w6_11,w6_12,w6_13)))) (some (.nx ((diags7++[(⟨2,e0.att⟩:Dg)]),w6_7,w6_6,y19.op,y19.n,y19.unit,y19.tab.den,y19.tab.ps,y19.kids))))) (cond (Bp e0.kind 6) (Lt (w6_6.length+1) (some (.nx (diags7,w6_7,(w6_6++[y19]),w6_8,w6_9,w6_10,w6_11,w6_12,w6_13)))) (some (.nx (diags7,w6_7,w6_6,y19.op,y19.n,y19.unit,y19.tab.den,y19.tab.ps,y19.kids))))))
noncomputable def C1  (t:Tr) (item:Nd):Option ((List Dg)×(List Ar)):=(item.kids[0]?).bind fun x1=>(Jv item.kids 1 ((item.kids.length:Nat):Int)).bind fun l2=>(GW l2.length (AL (fun i y x=>DB  t i y x.1 x.2.1 x.2.2.1 x.2.2.2.1 x.2.2.2.2.1 x.2.2.2.2.2.1 x.2.2.2.2.2.2.1 x.2.2.2.2.2.2.2.1 x.2.2.2.2.2.2.2.2) (fun x=>(x.1,x.2.1,x.2.2.1,x.2.2.2.1,x.2.2.2.2.1,x.2.2.2.2.2.1,x.2.2.2.2.2.2.1,x.2.2.2.2.2.2.2.1,x.2.2.2.2.2.2.2.2)) (l2.drop 0) 0 ([],[],[],0,0,ByteArray.empty,0,[],[]))).bind (GQ (fun ((diags7_28,w6_7_28,w6_6_28,w6_8_28,w6_9_28,w6_10_28,w6_11_28,w6_12_28,w6_13_28):((List Dg)×(List Int)×(List Ex)×Int×Int×ByteArray×Int×(List Pc)×(List Ex)))=>Lt (t.codex.arts.length+1) (some (diags7_28,(t.codex.arts++[(⟨item.n,((t.lines.get item.name).getD 0),x1.n,x1.fr,x1.to,x1.known,w6_6_28,w6_7_28,(⟨w6_8_28,w6_9_28,w6_10_28,(⟨w6_11_28,w6_12_28⟩:Fn),w6_13_28⟩:Ex)⟩:Ar)])))) (fun v=>some v))
theorem K7 {t:Tr} {item:Nd} {yR:(List Dg)} {qt_codex_artsR:(List Ar)} (hS:Sound P G (.call 48 [.ptr 0 0,.agg (Bo item)] ⟨(DM t),4,(DI t),3⟩ (.ret (.sl .lost yR.length (rows BX yR))) ⟨[(3,(BA t.Af)),(2,(Bz t.lines)),(1,(Bz t.facts)),(0,.cells [.sl (.row 0 3) t.codex.facts.length (rows B7 t.codex.facts),.sl (.row 1 3) t.codex.lines.length (rows B7 t.codex.lines),.sl (.row 2 14) qt_codex_artsR.length (rows FU qt_codex_artsR),.mp 1,.mp 2,.mp 3])],4,[(0,t.codex.facts.length),(1,t.codex.lines.length),(2,qt_codex_artsR.length)],3⟩)) (u0 u1 u2 u3 v0 v1 v2:Nat) (hnb:([u0,u1,u2,u3]:List Nat).Nodup:=by decide) (hnt:([v0,v1,v2]:List Nat).Nodup:=by decide):Cd.ok P G (.callU 48 [.ptr u0 0,.agg (Bo item)] (.ret (.sl .lost yR.length (rows BX yR))) [(u0,.cells (GK v0 v1 v2 u1 u2 u3 t)),(u1,(Bz t.facts)),(u2,(Bz t.lines)),(u3,(BA t.Af))] [(v0,t.codex.facts.length),(v1,t.codex.lines.length),(v2,t.codex.arts.length)] [(u0,.cells [.sl (.row v0 3) t.codex.facts.length (rows B7 t.codex.facts),.sl (.row v1 3) t.codex.lines.length (rows B7 t.codex.lines),.sl (.row v2 14) qt_codex_artsR.length (rows FU qt_codex_artsR),.mp u1,.mp u2,.mp u3]),(u1,(Bz t.facts)),(u2,(Bz t.lines)),(u3,(BA t.Af))] [(v0,t.codex.facts.length),(v1,t.codex.lines.length),(v2,qt_codex_artsR.length)]) :=
 CS (M:=[.cells (GK 0 1 2 1 2 3 t),(Bz t.facts),(Bz t.lines),(BA t.Af)]) (M2:=[.cells [.sl (.row 0 3) t.codex.facts.length (rows B7 t.codex.facts),.sl (.row 1 3) t.codex.lines.length (rows B7 t.codex.lines),.sl (.row 2 14) qt_codex_artsR.length (rows FU qt_codex_artsR),.mp 1,.mp 2,.mp 3],(Bz t.facts),(Bz t.lines),(BA t.Af)]) (T:=[t.codex.facts.length,t.codex.lines.length,t.codex.arts.length]) (T2:=[t.codex.facts.length,t.codex.lines.length,qt_codex_artsR.length]) (k:=4) (j:=3) Hd.Aa _ _ _ _ hS rfl rfl rfl rfl rfl hnb hnt rfl rfl (.cons (.cells (IA t (by decide) (by decide) (by decide) (by decide) (by decide) (by decide))) (.cons (BK (fun _=>rfl)) (.cons (BK (fun _=>rfl)) (.cons (BK (fun _=>rfl)) .nil)))) (.cons (.cells (.cons (.row (by decide) (Bl.AW t.codex.facts)) (.cons (.row (by decide) (Bl.AW t.codex.lines)) (.cons (.row (by decide) (CK.AW qt_codex_artsR)) (.cons (.mp (by decide)) (.cons (.mp (by decide)) (.cons (.mp (by decide)) .nil))))))) (.cons (BK (fun _=>rfl)) (.cons (BK (fun _=>rfl)) (.cons (BK (fun _=>rfl)) .nil)))) (.cons (.ptr (by decide)) (.cons (.pl (Am.Dp item)) .nil)) (.pl (AO.Bk yR)) (by
   intro e he
   simp only [List.mem_cons,List.not_mem_nil,or_false] at he
   rcases he with rfl | rfl | rfl | rfl
   · exact (.arg (.here .ptr))
   · exact (.box (p:=0) (.arg (.here .ptr)) rfl (.there (.there (.there (.here .mp)))))
   · exact (.box (p:=0) (.arg (.here .ptr)) rfl (.there (.there (.there (.there (.here .mp))))))
   · exact (.box (p:=0) (.arg (.here .ptr)) rfl (.there (.there (.there (.there (.there (.here .mp)))))))
   )
theorem J5   {t:Tr} {item:Nd} {yR:(List Dg)} {qt_codex_artsR:(List Ar)} (h:C1  t item=some (yR,qt_codex_artsR)):Sound P G (.call 48 [.ptr 0 0,.agg (Bo item)] ⟨(DM t),4,(DI t),3⟩ (.ret (.sl .lost yR.length (rows BX yR))) ⟨[(3,(BA t.Af)),(2,(Bz t.lines)),(1,(Bz t.facts)),(0,.cells [.sl (.row 0 3) t.codex.facts.length (rows B7 t.codex.facts),.sl (.row 1 3) t.codex.lines.length (rows B7 t.codex.lines),.sl (.row 2 14) qt_codex_artsR.length (rows FU qt_codex_artsR),.mp 1,.mp 2,.mp 3])],4,[(0,t.codex.facts.length),(1,t.codex.lines.length),(2,qt_codex_artsR.length)],3⟩):=by
 unfold C1 at h
 refine CT Hd.mixed (Ay Tryz.func48 b48 ?_)
 revert h
 refine Ah fun x1 hx1=>?_
 refine Ah fun l2 hl2=>?_
 refine DF (fun Q v=>Iu P G Tryz.f48 4 ⟨(DM t),4,(DI t),3⟩ Q (.sl .lost v.1.length (rows BX v.1)) ⟨[(3,(BA t.Af)),(2,(Bz t.lines)),(1,(Bz t.facts)),(0,.cells [.sl (.row 0 3) t.codex.facts.length (rows B7 t.codex.facts),.sl (.row 1 3) t.codex.lines.length (rows B7 t.codex.lines),.sl (.row 2 14) v.2.length (rows FU v.2),.mp 1,.mp 2,.mp 3])],4,[(0,t.codex.facts.length),(1,t.codex.lines.length),(2,v.2.length)],3⟩) (fun i0 ((diags7,w6_7,w6_6,w6_8,w6_9,w6_10,w6_11,w6_12,w6_13):((List Dg)×(List Int)×(List Ex)×Int×Int×ByteArray×Int×(List Pc)×(List Ex))) (j0:List Value)=>fr 111 [(0,.ptr 0 0),(6,.ptr 6 0),(7,.sl (.row 3 2) diags7.length (rows BX diags7)),(39,.sl .lost l2.length (Cg l2)),(40,.zi ((l2.length:Nat):Int)),(41,.zi ((i0:Nat):Int))] [42,47,52,75,76,78,79,88] j0) (fun ((diags7,w6_7,w6_6,w6_8,w6_9,w6_10,w6_11,w6_12,w6_13):((List Dg)×(List Int)×(List Ex)×Int×Int×ByteArray×Int×(List Pc)×(List Ex)))=>⟨[(6,.cells [.zi item.n,.zi ((t.lines.get item.name).getD 0),.zi x1.n,.zi x1.fr,.zi x1.to,.zi x1.known,.sl (.row 4 6) w6_6.length (BL w6_6),.sl (.row 5 1) w6_7.length (rows Qt w6_7),.zi w6_8,.zi w6_9,.zs w6_10,.zi w6_11,.sl .lost w6_12.length (rows GY w6_12),.sl .lost w6_13.length (BL w6_13)]),(5,.cells (Bo x1)),(4,.cells (Bo item)),(3,(BA t.Af)),(2,(Bz t.lines)),(1,(Bz t.facts)),(0,.cells (GK 0 1 2 1 2 3 t))],7,[(5,w6_7.length),(4,w6_6.length),(3,diags7.length),(0,t.codex.facts.length),(1,t.codex.lines.length),(2,t.codex.arts.length)],6⟩) (fun ((diags7,w6_7,w6_6,w6_8,w6_9,w6_10,w6_11,w6_12,w6_13):((List Dg)×(List Int)×(List Ex)×Int×Int×ByteArray×Int×(List Pc)×(List Ex))) (jx:List Value)=>fr 111 [(0,.ptr 0 0),(6,.ptr 6 0),(7,.sl (.row 3 2) diags7.length (rows BX diags7))] [42,47,52,75,76,78,79,88] jx) (fun ((diags7,w6_7,w6_6,w6_8,w6_9,w6_10,w6_11,w6_12,w6_13):((List Dg)×(List Int)×(List Ex)×Int×Int×ByteArray×Int×(List Pc)×(List Ex)))=>⟨[(6,.cells [.zi item.n,.zi ((t.lines.get item.name).getD 0),.zi x1.n,.zi x1.fr,.zi x1.to,.zi x1.known,.sl (.row 4 6) w6_6.length (BL w6_6),.sl (.row 5 1) w6_7.length (rows Qt w6_7),.zi w6_8,.zi w6_9,.zs w6_10,.zi w6_11,.sl .lost w6_12.length (rows GY w6_12),.sl .lost w6_13.length (BL w6_13)]),(5,.cells (Bo x1)),(4,.cells (Bo item)),(3,(BA t.Af)),(2,(Bz t.lines)),(1,(Bz t.facts)),(0,.cells (GK 0 1 2 1 2 3 t))],7,[(5,w6_7.length),(4,w6_6.length),(3,diags7.length),(0,t.codex.facts.length),(1,t.codex.lines.length),(2,t.codex.arts.length)],6⟩) [] (Dq [.t 7 2,.b 6 6 6,.b 6 7 1,.lb 6 12,.lb 6 13] 0 (sb B48 500) [.code (sb B48 63)] (Ag 300 [BT (BQ .lost hx1),Ko (w7 t.lines item.name),PA (Ir hl2)]) (by kernel_rfl)) ?_ ?_ ?_ (fun v h=>by cases h;exact .outer .body)
 rintro i0 ⟨diags7,w6_7,w6_6,w6_8,w6_9,w6_10,w6_11,w6_12,w6_13⟩ j0 hge hq
 exact B1 (Ag 300 [pb (IJ hge)]) (by kernel_rfl) (hq (js 8 j0 [(0,bF)]))
 rintro i0 e0 ⟨diags7,w6_7,w6_6,w6_8,w6_9,w6_10,w6_11,w6_12,w6_13⟩ j0 r he0 hi0 mi0 k
 show DB  t i0 e0 diags7 w6_7 w6_6 w6_8 w6_9 w6_10 w6_11 w6_12 w6_13=some r→_
 unfold DB
 let o1:LP:=[pb (Fk hi0),BT (BQ .lost he0)]
 refine Ad (fun hb12=>?_) fun hb12=>?_
 refine DF (fun Q v=>Iu P G Tryz.f48 4 ⟨(DM t),4,(DI t),3⟩ Q (.sl .lost v.1.length (rows BX v.1)) ⟨[(3,(BA t.Af)),(2,(Bz t.lines)),(1,(Bz t.facts)),(0,.cells [.sl (.row 0 3) t.codex.facts.length (rows B7 t.codex.facts),.sl (.row 1 3) t.codex.lines.length (rows B7 t.codex.lines),.sl (.row 2 14) v.2.length (rows FU v.2),.mp 1,.mp 2,.mp 3])],4,[(0,t.codex.facts.length),(1,t.codex.lines.length),(2,v.2.length)],3⟩) (fun i1 (w6_7:(List Int)) (j1:List Value)=>fr 111 [(0,.ptr 0 0),(6,.ptr 6 0),(7,.sl (.row 3 2) diags7.length (rows BX diags7)),(39,.sl .lost l2.length (Cg l2)),(40,.zi ((l2.length:Nat):Int)),(41,.zi ((i0:Nat):Int)),(49,.sl .lost e0.kids.length (Cg e0.kids)),(50,.zi ((e0.kids.length:Nat):Int)),(51,.zi ((i1:Nat):Int))] [42,47,52,75,76,78,79,88] j1) (fun (w6_7:(List Int))=>⟨[(7,.cells (Bo e0)),(6,.cells [.zi item.n,.zi ((t.lines.get item.name).getD 0),.zi x1.n,.zi x1.fr,.zi x1.to,.zi x1.known,.sl (.row 4 6) w6_6.length (BL w6_6),.sl (.row 5 1) w6_7.length (rows Qt w6_7),.zi w6_8,.zi w6_9,.zs w6_10,.zi w6_11,.sl .lost w6_12.length (rows GY w6_12),.sl .lost w6_13.length (BL w6_13)]),(5,.cells (Bo x1)),(4,.cells (Bo item)),(3,(BA t.Af)),(2,(Bz t.lines)),(1,(Bz t.facts)),(0,.cells (GK 0 1 2 1 2 3 t))],8,[(5,w6_7.length),(4,w6_6.length),(3,diags7.length),(0,t.codex.facts.length),(1,t.codex.lines.length),(2,t.codex.arts.length)],6⟩) (fun (w6_7:(List Int)) (jx:List Value)=>fr 111 [(0,.ptr 0 0),(6,.ptr 6 0),(7,.sl (.row 3 2) diags7.length (rows BX diags7)),(39,.sl .lost l2.length (Cg l2)),(40,.zi ((l2.length:Nat):Int)),(41,.zi ((i0:Nat):Int))] [42,47,52,75,76,78,79,88] jx) (fun (w6_7:(List Int))=>⟨[(7,.cells (Bo e0)),(6,.cells [.zi item.n,.zi ((t.lines.get item.name).getD 0),.zi x1.n,.zi x1.fr,.zi x1.to,.zi x1.known,.sl (.row 4 6) w6_6.length (BL w6_6),.sl (.row 5 1) w6_7.length (rows Qt w6_7),.zi w6_8,.zi w6_9,.zs w6_10,.zi w6_11,.sl .lost w6_12.length (rows GY w6_12),.sl .lost w6_13.length (BL w6_13)]),(5,.cells (Bo x1)),(4,.cells (Bo item)),(3,(BA t.Af)),(2,(Bz t.lines)),(1,(Bz t.facts)),(0,.cells (GK 0 1 2 1 2 3 t))],8,[(5,w6_7.length),(4,w6_6.length),(3,diags7.length),(0,t.codex.facts.length),(1,t.codex.lines.length),(2,t.codex.arts.length)],6⟩) (js 8 j0 [(0,bT),(1,bT)]) (Dq [] 2 (sb B48 2051236) [.code (sb B48 256405),.code (sb B48 32051),.endb 1,.code (sb B48 4007)] (Ag 300 (o1++[pb hb12])) (by kernel_rfl)) ?_ ?_ ?_ (fun v h=>by cases h;exact .outer (.Em k))
 rintro i1 w6_7 j1 hge hq
 exact B1 (Ag 300 [pb (IJ hge)]) (by kernel_rfl) (hq (js 8 j1 [(2,bF)]))
 rintro i1 e1 w6_7 j1 r he1 hi1 mi1 k
 show DD   i1 e1 w6_7=some r→_
 unfold DD
 refine Kz fun hl26=>?_
 rintro ⟨⟩
 exact Bt Hd.Aa [⟨.sl (.row 3 2) diags7.length (rows BX diags7),.sl (.row 3 2) diags7.length (rows BX diags7),(.under (CC rfl (Aj _ _ (AO.AW diags7))))⟩,fq (Am.Bk l2),fq (Am.Bk e0.kids)] [bp (Am.pl e0),bu [.zi item.n,.zi ((t.lines.get item.name).getD 0),.zi x1.n,.zi x1.fr,.zi x1.to,.zi x1.known,.sl (.row 4 6) w6_6.length (BL w6_6),.sl (.row 5 1) ((w6_7++[e1.n]).length) (rows Qt (w6_7++[e1.n])),.zi w6_8,.zi w6_9,.zs w6_10,.zi w6_11,.sl .lost w6_12.length (rows GY w6_12),.sl .lost w6_13.length (BL w6_13)] (Av rfl (Av rfl (Av rfl (Av rfl (Av rfl (Av rfl (Av (CC rfl (Aj _ _ (By.AW w6_6))) (Av (CC rfl (Aj _ _ (Jb.AW (w6_7++[e1.n])))) (Av rfl (Av rfl (Av rfl (Av rfl (Av (Ae _ _ (Ch.Bk w6_12)) (Av (Ae _ _ (By.Bk w6_13)) rfl)))))))))))))),bp (Am.pl x1),bp (Am.pl item),Bc t.Af,Bq t.lines,Bq t.facts,bu (GK 0 1 2 1 2 3 t) (CB rfl rfl rfl rfl rfl rfl)] (Ag 300 [pb (Fk hi1),BT (BQ .lost he1),Nk (ab3 (.row 5 1) w6_7 [e1.n] (o:=.full) (n:=1) (ns:=[.zi e1.n]) (Jb.wn [e1.n] (.r .nil)) rfl rfl (by simp) (by simpa using hl26)),pi mi1]) (by kernel_rfl) (k (js 8 j1 [(2,bT)]))
 rintro w6_7_27 jx_27
 rintro ⟨⟩
 exact Bt Hd.Aa [⟨.sl (.row 3 2) diags7.length (rows BX diags7),.sl (.row 3 2) diags7.length (rows BX diags7),(.under (CC rfl (Aj _ _ (AO.AW diags7))))⟩,fq (Am.Bk l2)] [bu [.zi item.n,.zi ((t.lines.get item.name).getD 0),.zi x1.n,.zi x1.fr,.zi x1.to,.zi x1.known,.sl (.row 4 6) w6_6.length (BL w6_6),.sl (.row 5 1) w6_7_27.length (rows Qt w6_7_27),.zi w6_8,.zi w6_9,.zs w6_10,.zi w6_11,.sl .lost w6_12.length (rows GY w6_12),.sl .lost w6_13.length (BL w6_13)] (Av rfl (Av rfl (Av rfl (Av rfl (Av rfl (Av rfl (Av (CC rfl (Aj _ _ (By.AW w6_6))) (Av (CC rfl (Aj _ _ (Jb.AW w6_7_27))) (Av rfl (Av rfl (Av rfl (Av rfl (Av (Ae _ _ (Ch.Bk w6_12)) (Av (Ae _ _ (By.Bk w6_13)) rfl)))))))))))))),bp (Am.pl x1),bp (Am.pl item),Bc t.Af,Bq t.lines,Bq t.facts,bu (GK 0 1 2 1 2 3 t) (CB rfl rfl rfl rfl rfl rfl)] (BJ 300 [pi mi0]) (by kernel_rfl) (k jx_27)
 refine Ah fun x18 hx18=>?_
 refine Ah fun y19 hy19=>?_
 refine Ah ?_
 rintro ⟨y20a,y20b⟩ hy20
 dsimp only
 let o2:LP:=o1++[pb hb12,BT (BQ .lost hx18),AG (IL (LU hy19) 0 1 2 3 0 1 2),An (Qy hy20)]
 refine Ad (fun hb13=>?_) fun hb13=>?_
 refine Kz fun hl21=>?_
 let o3:LP:=o2++[pb hb13,Nk (ZC (.row 3 2) diags7 [(⟨2,e0.att⟩:Dg)] (o:=.full) (n:=1) (ns:=[.zi 2,.zi e0.att]) (AO.wn [(⟨2,e0.att⟩:Dg)] (.r (.r .nil))) rfl rfl (by simp) (by simpa using hl21))]
 refine Ad (fun hb14=>?_) fun hb14=>?_
 refine Kz fun hl22=>?_
 rintro ⟨⟩
 exact Bt Hd.Aa [⟨.sl (.row 3 2) ((diags7++[(⟨2,e0.att⟩:Dg)]).length) (rows BX (diags7++[(⟨2,e0.att⟩:Dg)])),.sl (.row 3 2) ((diags7++[(⟨2,e0.att⟩:Dg)]).length) (rows BX (diags7++[(⟨2,e0.att⟩:Dg)])),(.under (CC rfl (Aj _ _ (AO.AW (diags7++[(⟨2,e0.att⟩:Dg)])))))⟩,fq (Am.Bk l2)] [bu [.zi item.n,.zi ((t.lines.get item.name).getD 0),.zi x1.n,.zi x1.fr,.zi x1.to,.zi x1.known,.sl (.row 4 6) ((w6_6++[y19]).length) (BL (w6_6++[y19])),.sl (.row 5 1) w6_7.length (rows Qt w6_7),.zi w6_8,.zi w6_9,.zs w6_10,.zi w6_11,.sl .lost w6_12.length (rows GY w6_12),.sl .lost w6_13.length (BL w6_13)] (Av rfl (Av rfl (Av rfl (Av rfl (Av rfl (Av rfl (Av (CC rfl (Aj _ _ (By.AW (w6_6++[y19])))) (Av (CC rfl (Aj _ _ (Jb.AW w6_7))) (Av rfl (Av rfl (Av rfl (Av rfl (Av (Ae _ _ (Ch.Bk w6_12)) (Av (Ae _ _ (By.Bk w6_13)) rfl)))))))))))))),bp (Am.pl x1),bp (Am.pl item),Bc t.Af,Bq t.lines,Bq t.facts,bu (GK 0 1 2 1 2 3 t) (CB rfl rfl rfl rfl rfl rfl)] (Ag 300 (o3++[pb hb14,Nk (aA (.row 4 6) w6_6 [y19] (o:=.full) (n:=1) (ns:=(Er y19)) (By.wn [y19] (.r (.r (.r (.r (.r (.r .nil))))))) rfl rfl (by simp) (by simpa using hl22)),pi mi0])) (by kernel_rfl) (k [bT,bF,(jv j0 2),bT,bT,undef,bT,bT])
 rintro ⟨⟩
 exact Bt Hd.Aa [⟨.sl (.row 3 2) ((diags7++[(⟨2,e0.att⟩:Dg)]).length) (rows BX (diags7++[(⟨2,e0.att⟩:Dg)])),.sl (.row 3 2) ((diags7++[(⟨2,e0.att⟩:Dg)]).length) (rows BX (diags7++[(⟨2,e0.att⟩:Dg)])),(.under (CC rfl (Aj _ _ (AO.AW (diags7++[(⟨2,e0.att⟩:Dg)])))))⟩,fq (Am.Bk l2)] [bu [.zi item.n,.zi ((t.lines.get item.name).getD 0),.zi x1.n,.zi x1.fr,.zi x1.to,.zi x1.known,.sl (.row 4 6) w6_6.length (BL w6_6),.sl (.row 5 1) w6_7.length (rows Qt w6_7),.zi y19.op,.zi y19.n,.zs y19.unit,.zi y19.tab.den,.sl .lost y19.tab.ps.length (rows GY y19.tab.ps),.sl .lost y19.kids.length (BL y19.kids)] (Av rfl (Av rfl (Av rfl (Av rfl (Av rfl (Av rfl (Av (CC rfl (Aj _ _ (By.AW w6_6))) (Av (CC rfl (Aj _ _ (Jb.AW w6_7))) (Av rfl (Av rfl (Av rfl (Av rfl (Av (Ae _ _ (Ch.Bk y19.tab.ps)) (Av (Ae _ _ (By.Bk y19.kids)) rfl)))))))))))))),bp (Am.pl x1),bp (Am.pl item),Bc t.Af,Bq t.lines,Bq t.facts,bu (GK 0 1 2 1 2 3 t) (CB rfl rfl rfl rfl rfl rfl)] (Ag 300 (o3++[pb hb14,pi mi0])) (by kernel_rfl) (k [bT,bF,(jv j0 2),bT,bT,undef,bT,bF])
 refine Ad (fun hb15=>?_) fun hb15=>?_
 refine Kz fun hl23=>?_
 let o4:LP:=o2++[pb hb13,pb hb15,Nk (ZC (.row 3 2) diags7 [(⟨2,e0.att⟩:Dg)] (o:=.full) (n:=1) (ns:=[.zi 2,.zi e0.att]) (AO.wn [(⟨2,e0.att⟩:Dg)] (.r (.r .nil))) rfl rfl (by simp) (by simpa using hl23))]
 refine Ad (fun hb16=>?_) fun hb16=>?_
 refine Kz fun hl24=>?_
 rintro ⟨⟩
 exact Bt Hd.Aa [⟨.sl (.row 3 2) ((diags7++[(⟨2,e0.att⟩:Dg)]).length) (rows BX (diags7++[(⟨2,e0.att⟩:Dg)])),.sl (.row 3 2) ((diags7++[(⟨2,e0.att⟩:Dg)]).length) (rows BX (diags7++[(⟨2,e0.att⟩:Dg)])),(.under (CC rfl (Aj _ _ (AO.AW (diags7++[(⟨2,e0.att⟩:Dg)])))))⟩,fq (Am.Bk l2)] [bu [.zi item.n,.zi ((t.lines.get item.name).getD 0),.zi x1.n,.zi x1.fr,.zi x1.to,.zi x1.known,.sl (.row 4 6) ((w6_6++[y19]).length) (BL (w6_6++[y19])),.sl (.row 5 1) w6_7.length (rows Qt w6_7),.zi w6_8,.zi w6_9,.zs w6_10,.zi w6_11,.sl .lost w6_12.length (rows GY w6_12),.sl .lost w6_13.length (BL w6_13)] (Av rfl (Av rfl (Av rfl (Av rfl (Av rfl (Av rfl (Av (CC rfl (Aj _ _ (By.AW (w6_6++[y19])))) (Av (CC rfl (Aj _ _ (Jb.AW w6_7))) (Av rfl (Av rfl (Av rfl (Av rfl (Av (Ae _ _ (Ch.Bk w6_12)) (Av (Ae _ _ (By.Bk w6_13)) rfl)))))))))))))),bp (Am.pl x1),bp (Am.pl item),Bc t.Af,Bq t.lines,Bq t.facts,bu (GK 0 1 2 1 2 3 t) (CB rfl rfl rfl rfl rfl rfl)] (Ag 300 (o4++[pb hb16,Nk (aA (.row 4 6) w6_6 [y19] (o:=.full) (n:=1) (ns:=(Er y19)) (By.wn [y19] (.r (.r (.r (.r (.r (.r .nil))))))) rfl rfl (by simp) (by simpa using hl24)),pi mi0])) (by kernel_rfl) (k [bT,bF,(jv j0 2),bF,bF,bT,bT,bT])
 rintro ⟨⟩
 exact Bt Hd.Aa [⟨.sl (.row 3 2) ((diags7++[(⟨2,e0.att⟩:Dg)]).length) (rows BX (diags7++[(⟨2,e0.att⟩:Dg)])),.sl (.row 3 2) ((diags7++[(⟨2,e0.att⟩:Dg)]).length) (rows BX (diags7++[(⟨2,e0.att⟩:Dg)])),(.under (CC rfl (Aj _ _ (AO.AW (diags7++[(⟨2,e0.att⟩:Dg)])))))⟩,fq (Am.Bk l2)] [bu [.zi item.n,.zi ((t.lines.get item.name).getD 0),.zi x1.n,.zi x1.fr,.zi x1.to,.zi x1.known,.sl (.row 4 6) w6_6.length (BL w6_6),.sl (.row 5 1) w6_7.length (rows Qt w6_7),.zi y19.op,.zi y19.n,.zs y19.unit,.zi y19.tab.den,.sl .lost y19.tab.ps.length (rows GY y19.tab.ps),.sl .lost y19.kids.length (BL y19.kids)] (Av rfl (Av rfl (Av rfl (Av rfl (Av rfl (Av rfl (Av (CC rfl (Aj _ _ (By.AW w6_6))) (Av (CC rfl (Aj _ _ (Jb.AW w6_7))) (Av rfl (Av rfl (Av rfl (Av rfl (Av (Ae _ _ (Ch.Bk y19.tab.ps)) (Av (Ae _ _ (By.Bk y19.kids)) rfl)))))))))))))),bp (Am.pl x1),bp (Am.pl item),Bc t.Af,Bq t.lines,Bq t.facts,bu (GK 0 1 2 1 2 3 t) (CB rfl rfl rfl rfl rfl rfl)] (Ag 300 (o4++[pb hb16,pi mi0])) (by kernel_rfl) (k [bT,bF,(jv j0 2),bF,bF,bT,bT,bF])
 refine Ad (fun hb17=>?_) fun hb17=>?_
 refine Kz fun hl25=>?_
 rintro ⟨⟩
 exact Bt Hd.Aa [⟨.sl (.row 3 2) diags7.length (rows BX diags7),.sl (.row 3 2) diags7.length (rows BX diags7),(.under (CC rfl (Aj _ _ (AO.AW diags7))))⟩,fq (Am.Bk l2)] [bu [.zi item.n,.zi ((t.lines.get item.name).getD 0),.zi x1.n,.zi x1.fr,.zi x1.to,.zi x1.known,.sl (.row 4 6) ((w6_6++[y19]).length) (BL (w6_6++[y19])),.sl (.row 5 1) w6_7.length (rows Qt w6_7),.zi w6_8,.zi w6_9,.zs w6_10,.zi w6_11,.sl .lost w6_12.length (rows GY w6_12),.sl .lost w6_13.length (BL w6_13)] (Av rfl (Av rfl (Av rfl (Av rfl (Av rfl (Av rfl (Av (CC rfl (Aj _ _ (By.AW (w6_6++[y19])))) (Av (CC rfl (Aj _ _ (Jb.AW w6_7))) (Av rfl (Av rfl (Av rfl (Av rfl (Av (Ae _ _ (Ch.Bk w6_12)) (Av (Ae _ _ (By.Bk w6_13)) rfl)))))))))))))),bp (Am.pl x1),bp (Am.pl item),Bc t.Af,Bq t.lines,Bq t.facts,bu (GK 0 1 2 1 2 3 t) (CB rfl rfl rfl rfl rfl rfl)] (Ag 300 (o2++[pb hb13,pb hb15,pb hb17,Nk (aA (.row 4 6) w6_6 [y19] (o:=.full) (n:=1) (ns:=(Er y19)) (By.wn [y19] (.r (.r (.r (.r (.r (.r .nil))))))) rfl rfl (by simp) (by simpa using hl25)),pi mi0])) (by kernel_rfl) (k [bT,bF,(jv j0 2),bF,bF,bF,bF,bT])
 rintro ⟨⟩
 exact Bt Hd.Aa [⟨.sl (.row 3 2) diags7.length (rows BX diags7),.sl (.row 3 2) diags7.length (rows BX diags7),(.under (CC rfl (Aj _ _ (AO.AW diags7))))⟩,fq (Am.Bk l2)] [bu [.zi item.n,.zi ((t.lines.get item.name).getD 0),.zi x1.n,.zi x1.fr,.zi x1.to,.zi x1.known,.sl (.row 4 6) w6_6.length (BL w6_6),.sl (.row 5 1) w6_7.length (rows Qt w6_7),.zi y19.op,.zi y19.n,.zs y19.unit,.zi y19.tab.den,.sl .lost y19.tab.ps.length (rows GY y19.tab.ps),.sl .lost y19.kids.length (BL y19.kids)] (Av rfl (Av rfl (Av rfl (Av rfl (Av rfl (Av rfl (Av (CC rfl (Aj _ _ (By.AW w6_6))) (Av (CC rfl (Aj _ _ (Jb.AW w6_7))) (Av rfl (Av rfl (Av rfl (Av rfl (Av (Ae _ _ (Ch.Bk y19.tab.ps)) (Av (Ae _ _ (By.Bk y19.kids)) rfl)))))))))))))),bp (Am.pl x1),bp (Am.pl item),Bc t.Af,Bq t.lines,Bq t.facts,bu (GK 0 1 2 1 2 3 t) (CB rfl rfl rfl rfl rfl rfl)] (Ag 300 (o2++[pb hb13,pb hb15,pb hb17,pi mi0])) (by kernel_rfl) (k [bT,bF,(jv j0 2),bF,bF,bF,bF,bF])
 rintro ⟨diags7_28,w6_7_28,w6_6_28,w6_8_28,w6_9_28,w6_10_28,w6_11_28,w6_12_28,w6_13_28⟩ jx_28
 dsimp only
 refine Kz fun hl29=>?_
 refine Gv ?_
 rintro rfl rfl
 exact Ao Hd.Aa _ _ [⟨.sl (.row 3 2) diags7_28.length (rows BX diags7_28),.sl .lost diags7_28.length (rows BX diags7_28),(.wn (.s rfl .nil) (AO.Bk diags7_28))⟩] [Bc t.Af,Bq t.lines,Bq t.facts,bu [.sl (.row 0 3) t.codex.facts.length (rows B7 t.codex.facts),.sl (.row 1 3) t.codex.lines.length (rows B7 t.codex.lines),.sl (.row 2 14) ((t.codex.arts++[(⟨item.n,((t.lines.get item.name).getD 0),x1.n,x1.fr,x1.to,x1.known,w6_6_28,w6_7_28,(⟨w6_8_28,w6_9_28,w6_10_28,(⟨w6_11_28,w6_12_28⟩:Fn),w6_13_28⟩:Ex)⟩:Ar)]).length) (rows FU (t.codex.arts++[(⟨item.n,((t.lines.get item.name).getD 0),x1.n,x1.fr,x1.to,x1.known,w6_6_28,w6_7_28,(⟨w6_8_28,w6_9_28,w6_10_28,(⟨w6_11_28,w6_12_28⟩:Fn),w6_13_28⟩:Ex)⟩:Ar)])),.mp 1,.mp 2,.mp 3] (Av (CC rfl (Aj _ _ (Bl.AW t.codex.facts))) (Av (CC rfl (Aj _ _ (Bl.AW t.codex.lines))) (Av (CC rfl (Aj _ _ (CK.AW (t.codex.arts++[(⟨item.n,((t.lines.get item.name).getD 0),x1.n,x1.fr,x1.to,x1.known,w6_6_28,w6_7_28,(⟨w6_8_28,w6_9_28,w6_10_28,(⟨w6_11_28,w6_12_28⟩:Fn),w6_13_28⟩:Ex)⟩:Ar)])))) (Av rfl (Av rfl (Av rfl rfl))))))] (BJ 300 [pza,Nk (ac5 (.row 2 14) t.codex.arts [(⟨item.n,((t.lines.get item.name).getD 0),x1.n,x1.fr,x1.to,x1.known,w6_6_28,w6_7_28,(⟨w6_8_28,w6_9_28,w6_10_28,(⟨w6_11_28,w6_12_28⟩:Fn),w6_13_28⟩:Ex)⟩:Ar)] (o:=.full) (n:=1) (ns:=[.zi item.n,.zi ((t.lines.get item.name).getD 0),.zi x1.n,.zi x1.fr,.zi x1.to,.zi x1.known,.sl (.row 4 6) w6_6_28.length (BL w6_6_28),.sl (.row 5 1) w6_7_28.length (rows Qt w6_7_28),.zi w6_8_28,.zi w6_9_28,.zs w6_10_28,.zi w6_11_28,.sl .lost w6_12_28.length (rows GY w6_12_28),.sl .lost w6_13_28.length (BL w6_13_28)]) (CK.wn [(⟨item.n,((t.lines.get item.name).getD 0),x1.n,x1.fr,x1.to,x1.known,w6_6_28,w6_7_28,(⟨w6_8_28,w6_9_28,w6_10_28,(⟨w6_11_28,w6_12_28⟩:Fn),w6_13_28⟩:Ex)⟩:Ar)] (.r (.r (.r (.r (.r (.r (.s rfl (.s rfl (.r (.r (.r (.r (.r (.r .nil))))))))))))))) rfl rfl (by simp) (by simpa using hl29))]) (by kernel_rfl) .body
end Mo
end Go.Proofs.YtnijkdknnmgoeaaGreat
