/- Part of a proof: see the last text. -/
import Derived.Test.YtnijkdknnmgoeaaGreatCxk
set_option linter.unusedVariables false
set_option linter.unusedSimpArgs false
namespace Go.Proofs.YtnijkdknnmgoeaaGreat
open AI Go
namespace Mo
set_option maxRecDepth 100000
set_option maxHeartbeats 4000000
noncomputable def B22:Code:=AY Tryz.f22
theorem b22:Tryz.f22.body=some B22:=by kernel_rfl
noncomputable def Jl  (c:Co) (i0:Nat) (e0:Ar) (w1_m:(Mm Int Int)):Option (Lp (Mm Int Int) (Mm Int Int) Bool):=cond (DH e0.number 1) (some (.rt false)) (cond (DH 1000000 e0.number) (some (.rt false)) (cond (DH e0.line 0) (some (.rt false)) (cond (Kt ((c.lines.length:Nat):Int) e0.line) (some (.rt false)) (cond ((w1_m.get e0.number).isSome) (cond (Bp ((w1_m.get e0.number).getD 0) e0.line) (some (.nx (w1_m.set e0.number e0.line))) (some (.rt false))) (some (.nx (w1_m.set e0.number e0.line)))))))
noncomputable def IT  (c:Co) (w1_m_3:(Mm Int Int)) (i1:Nat) (e1:Ar) (w2_4:Int):Option (Lp Int Int Bool):=(DN (⟨c,w1_m_3,w2_4⟩:Ft) e1).bind fun (y4a,y4b)=>cond y4a (some (.nx y4b)) (some (.rt false))
noncomputable def Ii  (c:Co):Option Bool:=cond (DH 32 ((c.facts.length:Nat):Int)) (some false) (cond (DH 32 ((c.lines.length:Nat):Int)) (some false) (cond (DH 60 ((c.arts.length:Nat):Int)) (some false) ((Es c.facts 0 0).bind fun y1=>cond y1 ((Es c.lines 1 4).bind fun y2=>cond y2 ((GW c.arts.length (AL (fun i y x=>Jl  c i y x) (fun x=>x) (c.arts.drop 0) 0 (Mm.nil:Mm Int Int))).bind (GQ (fun (w1_m_3:(Mm Int Int))=>(GW c.arts.length (AL (fun i y x=>IT  c w1_m_3 i y x) (fun x=>x) (c.arts.drop 0) 0 0)).bind (GQ (fun (w2_4_5:Int)=>some true) (fun v=>some v))) (fun v=>some v))) (some false)) (some false))))
theorem QJ   {c:Co} {yR:Bool} (h:Ii  c=some yR):Pure P G 22 [.agg (Wf c)] (.zb yR):=by
 unfold Ii at h
 refine BF Hd.mixed Hd.Aa (Ay Tryz.func22 b22 ?_) (AW (Hu.Dp c) rfl) rfl
 revert h
 refine Ad (fun hb1=>?_) fun hb1=>?_
 rintro ⟨⟩
 exact rT [pb hb1]
 refine Ad (fun hb2=>?_) fun hb2=>?_
 rintro ⟨⟩
 exact rT [pb hb1,pb hb2]
 refine Ad (fun hb3=>?_) fun hb3=>?_
 rintro ⟨⟩
 exact rT [pb hb1,pb hb2,pb hb3]
 refine Ah fun y1 hy1=>?_
 let o1:LP:=[pb hb1,pb hb2,pb hb3,An (Hs hy1)]
 refine Ad (fun hv=>?_) fun hv=>?_
 subst hv
 refine Ah fun y2 hy2=>?_
 refine Ad (fun hv=>?_) fun hv=>?_
 subst hv
 refine DF (fun Q v=>EQ P Tryz.f22 0 Q (.zb v)) (fun i0 (w1_m:(Mm Int Int)) (j0:List Value)=>fr 100 [(1,.ptr 0 0),(3,.mp 1),(39,.sl .lost c.arts.length (rows FU c.arts)),(40,.zi ((c.arts.length:Nat):Int)),(41,.zi ((i0:Nat):Int))] [2,7,14,15,19,20,21,25,26,29,30,31,34,35,36,42,47,48,51,52,53,56,57,58,64,65,72,73,74,78,79,93,97,98] j0) (fun (w1_m:(Mm Int Int))=>⟨[(1,(BA w1_m)),(0,.cells (Wf c))],2,[],0⟩) (fun (w1_m:(Mm Int Int)) (jx:List Value)=>fr 100 [(1,.ptr 0 0),(3,.mp 1)] [2,7,14,15,19,20,21,25,26,29,30,31,34,35,36,42,47,48,51,52,53,56,57,58,64,65,72,73,74,78,79,93,97,98] jx) (fun (w1_m:(Mm Int Int))=>⟨[(1,(BA w1_m)),(0,.cells (Wf c))],2,[],0⟩) [bF,undef,bF,bF,bF,bF,bF,bF,bF,bT,bF,bF,bT,bF,bF] (Dq [] 0 (sb B22 500) [.code (sb B22 63)] (Ag 300 (o1++[An (Hs hy2)])) (by kernel_rfl)) ?_ ?_ ?_ (fun v h=>by cases h;exact .outer .body)
 rintro i0 w1_m j0 hge hq
 exact B1 (Ag 300 [pb (IJ hge)]) (by kernel_rfl) (hq (js 34 j0 [(15,bF)]))
 rintro i0 e0 w1_m j0 r he0 hi0 mi0 k
 show Jl  c i0 e0 w1_m=some r→_
 unfold Jl
 let o2:LP:=[pb (Fk hi0),BT (pW .lost he0)]
 refine Ad (fun hb4=>?_) fun hb4=>?_
 rintro ⟨⟩
 exact Ap _ _ (Ag 300 (o2++[pb hb4])) (by kernel_rfl) (.Em k) .sc
 refine Ad (fun hb5=>?_) fun hb5=>?_
 rintro ⟨⟩
 exact Ap _ _ (Ag 300 (o2++[pb hb4,pb hb5])) (by kernel_rfl) (.Em k) .sc
 refine Ad (fun hb6=>?_) fun hb6=>?_
 rintro ⟨⟩
 exact Ap _ _ (Ag 300 (o2++[pb hb4,pb hb5,pb hb6])) (by kernel_rfl) (.Em k) .sc
 refine Ad (fun hb7=>?_) fun hb7=>?_
 rintro ⟨⟩
 exact Ap _ _ (Ag 300 (o2++[pb hb4,pb hb5,pb hb6,pb hb7])) (by kernel_rfl) (.Em k) .sc
 refine Ad (fun hb8=>?_) fun hb8=>?_
 refine Ad (fun hb9=>?_) fun hb9=>?_
 rintro ⟨⟩
 exact Bt Hd.Aa [fq (CK.Bk c.arts)] [Bc (w1_m.set e0.number e0.line),bp (Hu.pl c)] (Ag 300 (o2++[pb hb4,pb hb5,pb hb6,pb hb7,Ko (Rh w1_m e0.number hb8),pn hb9,VS (qO w1_m e0.number e0.line),pi mi0])) (by kernel_rfl) (k (js 34 j0 [(1,bT),(15,bT),(16,bF),(17,bF),(18,bF),(19,bF),(20,bF),(21,bF),(22,bF),(23,bF),(24,bF),(25,bF),(26,bT),(27,bT),(28,bT),(29,bF),(30,bF)]))
 rintro ⟨⟩
 exact Ap _ _ (Ag 300 (o2++[pb hb4,pb hb5,pb hb6,pb hb7,Ko (Rh w1_m e0.number hb8),pn hb9])) (by kernel_rfl) (.Em k) .sc
 rintro ⟨⟩
 exact Bt Hd.Aa [fq (CK.Bk c.arts)] [Bc (w1_m.set e0.number e0.line),bp (Hu.pl c)] (Ag 300 (o2++[pb hb4,pb hb5,pb hb6,pb hb7,Ko (Rh w1_m e0.number hb8),VS (qO w1_m e0.number e0.line),pi mi0])) (by kernel_rfl) (k (js 34 j0 [(1,bF),(15,bT),(16,bF),(17,bF),(18,bF),(19,bF),(20,bF),(21,bF),(22,bF),(23,bF),(24,bF),(25,bF),(26,bF),(27,bF),(28,bF),(29,undef),(30,bF)]))
 rintro w1_m_3 jx_3
 refine DF (fun Q v=>EQ P Tryz.f22 0 Q (.zb v)) (fun i1 (w2_4:Int) (j1:List Value)=>fr 100 [(8,.ptr 2 0),(90,.sl .lost c.arts.length (rows FU c.arts)),(91,.zi ((c.arts.length:Nat):Int)),(92,.zi ((i1:Nat):Int))] [2,7,14,15,19,20,21,25,26,29,30,31,34,35,36,42,47,48,51,52,53,56,57,58,64,65,72,73,74,78,79,93,97,98] j1) (fun (w2_4:Int)=>⟨[(2,.cells [.sl .lost c.facts.length (rows B7 c.facts),.sl .lost c.lines.length (rows B7 c.lines),.sl .lost c.arts.length (rows FU c.arts),.mp 1,.zi w2_4]),(1,(BA w1_m_3)),(0,.cells (Wf c))],3,[],0⟩) (fun (w2_4:Int) (jx:List Value)=>fr 100 [] [2,7,14,15,19,20,21,25,26,29,30,31,34,35,36,42,47,48,51,52,53,56,57,58,64,65,72,73,74,78,79,93,97,98] jx) (fun (w2_4:Int)=>⟨[(2,.cells [.sl .lost c.facts.length (rows B7 c.facts),.sl .lost c.lines.length (rows B7 c.lines),.sl .lost c.arts.length (rows FU c.arts),.mp 1,.zi w2_4]),(1,(BA w1_m_3)),(0,.cells (Wf c))],3,[],0⟩) jx_3 (Dq [] 2 (sb B22 2036) [.code (sb B22 255)] (BJ 300 []) (by kernel_rfl)) ?_ ?_ ?_ (fun v h=>by cases h;exact .outer .body)
 rintro i1 w2_4 j1 hge hq
 exact B1 (Ag 300 [pb (IJ hge)]) (by kernel_rfl) (hq (js 34 j1 [(31,bF)]))
 rintro i1 e1 w2_4 j1 r he1 hi1 mi1 k
 show IT  c w1_m_3 i1 e1 w2_4=some r→_
 unfold IT
 refine Ah ?_
 rintro ⟨y4a,y4b⟩ hy4
 dsimp only
 let o3:LP:=[pb (Fk hi1),BT (pW .lost he1),AG (M7 (Lr hy4) 2 1)]
 refine Ad (fun hv=>?_) fun hv=>?_
 subst hv
 rintro ⟨⟩
 exact Bt Hd.Aa [fq (CK.Bk c.arts)] [bu [.sl .lost c.facts.length (rows B7 c.facts),.sl .lost c.lines.length (rows B7 c.lines),.sl .lost c.arts.length (rows FU c.arts),.mp 1,.zi y4b] (Av (Ae _ _ (Bl.Bk c.facts)) (Av (Ae _ _ (Bl.Bk c.lines)) (Av (Ae _ _ (CK.Bk c.arts)) (Av rfl (Av rfl rfl))))),Bc w1_m_3,bp (Hu.pl c)] (Ag 300 (o3++[pi mi1])) (by kernel_rfl) (k (js 34 j1 [(31,bT),(32,bT),(33,bF)]))
 subst hv
 rintro ⟨⟩
 exact Ap _ _ (Ag 300 o3) (by kernel_rfl) (.Em k) .sc
 rintro w2_4_5 jx_5
 rintro ⟨⟩
 exact Ap _ _ (BJ 300 []) (by kernel_rfl) .body .sc
 subst hv
 rintro ⟨⟩
 exact rT (o1++[An (Hs hy2)])
 subst hv
 rintro ⟨⟩
 exact rT o1
noncomputable def B63:Code:=AY Tryz.f63
theorem b63:Tryz.f63.body=some B63:=by kernel_rfl
noncomputable def IV  (n:Nd):Option Bool:=(IH n 2000).bind fun y1=>cond y1 ((Jh n 40).bind fun y2=>some y2) (some false)
theorem Kh   {n:Nd} {yR:Bool} (h:IV  n=some yR):Pure P G 63 [.agg (Bo n)] (.zb yR):=by
 unfold IV at h
 refine BF Hd.mixed Hd.Aa (Ay Tryz.func63 b63 ?_) (AW (Am.Dp n) rfl) rfl
 revert h
 refine Ah fun y1 hy1=>?_
 refine Ad (fun hv=>?_) fun hv=>?_
 subst hv
 refine Ah fun y2 hy2=>?_
 rintro ⟨⟩
 exact rT [An (IX hy1),An (OP hy2)]
 subst hv
 rintro ⟨⟩
 exact rT [An (IX hy1)]
noncomputable def B66:Code:=AY Tryz.f66
theorem lH:Tryz.f66.body=some B66:=by kernel_rfl
noncomputable def Ee  (n:Nd):Option Bool:=cond (BC n.name.data.toList ByteArray.empty.data.toList) (cond (BC n.unit.data.toList ByteArray.empty.data.toList) (cond (Bp n.n 0) (cond (Bp n.fr 0) (cond (Bp n.to 0) (cond (Bp n.known 0) (cond (Bp n.tab.den 0) (cond (Bp ((n.tab.ps.length:Nat):Int) 0) (some true) (some false)) (some false)) (some false)) (some false)) (some false)) (some false)) (some false)) (some false)
theorem H5   {n:Nd} {yR:Bool} (h:Ee  n=some yR):Pure P G 66 [.agg (Bo n),.zi 32] (.zb yR):=by
 unfold Ee at h
 refine BF Hd.mixed Hd.Aa (Ay Tryz.func66 lH ?_) (AW (Am.Dp n) (AW rfl rfl)) rfl
 revert h
 refine Ad (fun hb1=>?_) fun hb1=>?_
 let o1:LP:=[pk,pk,pb hb1,pk,pk]
 refine Ad (fun hb2=>?_) fun hb2=>?_
 let o2:LP:=o1++[pb hb2,pk,pk]
 refine Ad (fun hb3=>?_) fun hb3=>?_
 let o3:LP:=o2++[pb hb3,pk,pk]
 refine Ad (fun hb4=>?_) fun hb4=>?_
 refine Ad (fun hb5=>?_) fun hb5=>?_
 refine Ad (fun hb6=>?_) fun hb6=>?_
 refine Ad (fun hb7=>?_) fun hb7=>?_
 refine Ad (fun hb8=>?_) fun hb8=>?_
 rintro ⟨⟩
 exact rT (o3++[pb hb4,pb hb5,pb hb6,pk,pk,pb hb7,pb hb8,pk,pk])
 rintro ⟨⟩
 exact rT (o3++[pb hb4,pb hb5,pb hb6,pk,pk,pb hb7,pb hb8])
 rintro ⟨⟩
 exact rT (o3++[pb hb4,pb hb5,pb hb6,pk,pk,pb hb7])
 rintro ⟨⟩
 exact rT (o3++[pb hb4,pb hb5,pb hb6])
 rintro ⟨⟩
 exact rT (o3++[pb hb4,pb hb5])
 rintro ⟨⟩
 exact rT (o3++[pb hb4])
 rintro ⟨⟩
 exact rT (o2++[pb hb3])
 rintro ⟨⟩
 exact rT (o1++[pb hb2])
 rintro ⟨⟩
 exact rT [pk,pk,pb hb1]
noncomputable def FQ  (n:Nd):Option Bool:=cond (BC n.name.data.toList ByteArray.empty.data.toList) (cond (Bp n.fr 0) (cond (Bp n.to 0) (cond (Bp n.known 0) (cond (Bp n.tab.den 0) (cond (Bp ((n.tab.ps.length:Nat):Int) 0) (cond (Bp ((n.kids.length:Nat):Int) 0) (some true) (some false)) (some false)) (some false)) (some false)) (some false)) (some false)) (some false)
theorem KZ   {n:Nd} {yR:Bool} (h:FQ  n=some yR):Pure P G 66 [.agg (Bo n),.zi 6] (.zb yR):=by
 unfold FQ at h
 refine BF Hd.mixed Hd.Aa (Ay Tryz.func66 lH ?_) (AW (Am.Dp n) (AW rfl rfl)) rfl
 revert h
 refine Ad (fun hb1=>?_) fun hb1=>?_
 let o1:LP:=[pk,pk,pb hb1,pk,pk,pk,pk,pk,pk]
 refine Ad (fun hb2=>?_) fun hb2=>?_
 refine Ad (fun hb3=>?_) fun hb3=>?_
 refine Ad (fun hb4=>?_) fun hb4=>?_
 let o2:LP:=o1++[pb hb2,pb hb3,pb hb4,pk,pk]
 refine Ad (fun hb5=>?_) fun hb5=>?_
 refine Ad (fun hb6=>?_) fun hb6=>?_
 refine Ad (fun hb7=>?_) fun hb7=>?_
 rintro ⟨⟩
 exact rT (o2++[pb hb5,pb hb6,pk,pk,pb hb7])
 rintro ⟨⟩
 exact rT (o2++[pb hb5,pb hb6,pk,pk,pb hb7])
 rintro ⟨⟩
 exact rT (o2++[pb hb5,pb hb6])
 rintro ⟨⟩
 exact rT (o2++[pb hb5])
 rintro ⟨⟩
 exact rT (o1++[pb hb2,pb hb3,pb hb4])
 rintro ⟨⟩
 exact rT (o1++[pb hb2,pb hb3])
 rintro ⟨⟩
 exact rT (o1++[pb hb2])
 rintro ⟨⟩
 exact rT [pk,pk,pb hb1]
noncomputable def FR  (n:Nd):Option Bool:=cond (BC n.unit.data.toList ByteArray.empty.data.toList) (cond (Bp n.n 0) (cond (Bp n.fr 0) (cond (Bp n.to 0) (cond (Bp n.known 0) (cond (Bp n.tab.den 0) (cond (Bp ((n.tab.ps.length:Nat):Int) 0) (cond (Bp ((n.kids.length:Nat):Int) 0) (some true) (some false)) (some false)) (some false)) (some false)) (some false)) (some false)) (some false)) (some false)
theorem GC   {n:Nd} {yR:Bool} (h:FR  n=some yR):Pure P G 66 [.agg (Bo n),.zi 1] (.zb yR):=by
 unfold FR at h
 refine BF Hd.mixed Hd.Aa (Ay Tryz.func66 lH ?_) (AW (Am.Dp n) (AW rfl rfl)) rfl
 revert h
 let o1:LP:=[pk,pk,pk,pk]
 refine Ad (fun hb1=>?_) fun hb1=>?_
 let o2:LP:=o1++[pb hb1,pk,pk]
 refine Ad (fun hb2=>?_) fun hb2=>?_
 let o3:LP:=o2++[pb hb2,pk,pk]
 refine Ad (fun hb3=>?_) fun hb3=>?_
 refine Ad (fun hb4=>?_) fun hb4=>?_
 refine Ad (fun hb5=>?_) fun hb5=>?_
 let o4:LP:=o3++[pb hb3,pb hb4,pb hb5,pk,pk]
 refine Ad (fun hb6=>?_) fun hb6=>?_
 refine Ad (fun hb7=>?_) fun hb7=>?_
 refine Ad (fun hb8=>?_) fun hb8=>?_
 rintro ⟨⟩
 exact rT (o4++[pb hb6,pb hb7,pk,pk,pb hb8])
 rintro ⟨⟩
 exact rT (o4++[pb hb6,pb hb7,pk,pk,pb hb8])
 rintro ⟨⟩
 exact rT (o4++[pb hb6,pb hb7])
 rintro ⟨⟩
 exact rT (o4++[pb hb6])
 rintro ⟨⟩
 exact rT (o3++[pb hb3,pb hb4,pb hb5])
 rintro ⟨⟩
 exact rT (o3++[pb hb3,pb hb4])
 rintro ⟨⟩
 exact rT (o3++[pb hb3])
 rintro ⟨⟩
 exact rT (o2++[pb hb2])
 rintro ⟨⟩
 exact rT (o1++[pb hb1])
noncomputable def GN  (n:Nd):Option Bool:=cond (BC n.name.data.toList ByteArray.empty.data.toList) (cond (BC n.unit.data.toList ByteArray.empty.data.toList) (cond (Bp n.fr 0) (cond (Bp n.to 0) (cond (Bp n.known 0) (cond (Bp n.tab.den 0) (cond (Bp ((n.tab.ps.length:Nat):Int) 0) (cond (Bp ((n.kids.length:Nat):Int) 0) (some true) (some false)) (some false)) (some false)) (some false)) (some false)) (some false)) (some false)) (some false)
theorem Lb   {n:Nd} {yR:Bool} (h:GN  n=some yR):Pure P G 66 [.agg (Bo n),.zi 4] (.zb yR):=by
 unfold GN at h
 refine BF Hd.mixed Hd.Aa (Ay Tryz.func66 lH ?_) (AW (Am.Dp n) (AW rfl rfl)) rfl
 revert h
 refine Ad (fun hb1=>?_) fun hb1=>?_
 let o1:LP:=[pk,pk,pb hb1,pk,pk]
 refine Ad (fun hb2=>?_) fun hb2=>?_
 let o2:LP:=o1++[pb hb2,pk,pk,pk,pk]
 refine Ad (fun hb3=>?_) fun hb3=>?_
 refine Ad (fun hb4=>?_) fun hb4=>?_
 refine Ad (fun hb5=>?_) fun hb5=>?_
 let o3:LP:=o2++[pb hb3,pb hb4,pb hb5,pk,pk]
 refine Ad (fun hb6=>?_) fun hb6=>?_
 refine Ad (fun hb7=>?_) fun hb7=>?_
 refine Ad (fun hb8=>?_) fun hb8=>?_
 rintro ⟨⟩
 exact rT (o3++[pb hb6,pb hb7,pk,pk,pb hb8])
 rintro ⟨⟩
 exact rT (o3++[pb hb6,pb hb7,pk,pk,pb hb8])
 rintro ⟨⟩
 exact rT (o3++[pb hb6,pb hb7])
 rintro ⟨⟩
 exact rT (o3++[pb hb6])
 rintro ⟨⟩
 exact rT (o2++[pb hb3,pb hb4,pb hb5])
 rintro ⟨⟩
 exact rT (o2++[pb hb3,pb hb4])
 rintro ⟨⟩
 exact rT (o2++[pb hb3])
 rintro ⟨⟩
 exact rT (o1++[pb hb2])
 rintro ⟨⟩
 exact rT [pk,pk,pb hb1]
noncomputable def Fi  (n:Nd):Option Bool:=cond (BC n.unit.data.toList ByteArray.empty.data.toList) (cond (Bp n.n 0) (cond (Bp n.fr 0) (cond (Bp n.to 0) (cond (Bp n.known 0) (cond (Bp n.tab.den 0) (cond (Bp ((n.tab.ps.length:Nat):Int) 0) (some true) (some false)) (some false)) (some false)) (some false)) (some false)) (some false)) (some false)
theorem Kx   {n:Nd} {yR:Bool} (h:Fi  n=some yR):Pure P G 66 [.agg (Bo n),.zi 33] (.zb yR):=by
 unfold Fi at h
 refine BF Hd.mixed Hd.Aa (Ay Tryz.func66 lH ?_) (AW (Am.Dp n) (AW rfl rfl)) rfl
 revert h
 let o1:LP:=[pk,pk,pk,pk]
 refine Ad (fun hb1=>?_) fun hb1=>?_
 let o2:LP:=o1++[pb hb1,pk,pk]
 refine Ad (fun hb2=>?_) fun hb2=>?_
 let o3:LP:=o2++[pb hb2,pk,pk]
 refine Ad (fun hb3=>?_) fun hb3=>?_
 refine Ad (fun hb4=>?_) fun hb4=>?_
 refine Ad (fun hb5=>?_) fun hb5=>?_
 refine Ad (fun hb6=>?_) fun hb6=>?_
 refine Ad (fun hb7=>?_) fun hb7=>?_
 rintro ⟨⟩
 exact rT (o3++[pb hb3,pb hb4,pb hb5,pk,pk,pb hb6,pb hb7,pk,pk])
 rintro ⟨⟩
 exact rT (o3++[pb hb3,pb hb4,pb hb5,pk,pk,pb hb6,pb hb7])
 rintro ⟨⟩
 exact rT (o3++[pb hb3,pb hb4,pb hb5,pk,pk,pb hb6])
 rintro ⟨⟩
 exact rT (o3++[pb hb3,pb hb4,pb hb5])
 rintro ⟨⟩
 exact rT (o3++[pb hb3,pb hb4])
 rintro ⟨⟩
 exact rT (o3++[pb hb3])
 rintro ⟨⟩
 exact rT (o2++[pb hb2])
 rintro ⟨⟩
 exact rT (o1++[pb hb1])
noncomputable def Gk  (n:Nd):Option Bool:=cond (BC n.name.data.toList ByteArray.empty.data.toList) (cond (BC n.unit.data.toList ByteArray.empty.data.toList) (cond (Bp n.n 0) (cond (Bp n.fr 0) (cond (Bp n.to 0) (cond (Bp n.known 0) (some true) (some false)) (some false)) (some false)) (some false)) (some false)) (some false)
theorem Ow   {n:Nd} {yR:Bool} (h:Gk  n=some yR):Pure P G 66 [.agg (Bo n),.zi 48] (.zb yR):=by
 unfold Gk at h
 refine BF Hd.mixed Hd.Aa (Ay Tryz.func66 lH ?_) (AW (Am.Dp n) (AW rfl rfl)) rfl
 revert h
 refine Ad (fun hb1=>?_) fun hb1=>?_
 let o1:LP:=[pk,pk,pb hb1,pk,pk]
 refine Ad (fun hb2=>?_) fun hb2=>?_
 refine Ad (fun hb3=>?_) fun hb3=>?_
 let o2:LP:=o1++[pb hb2,pk,pk,pb hb3,pk,pk]
 refine Ad (fun hb4=>?_) fun hb4=>?_
 refine Ad (fun hb5=>?_) fun hb5=>?_
 refine Ad (fun hb6=>?_) fun hb6=>?_
 rintro ⟨⟩
 exact rT (o2++[pb hb4,pb hb5,pb hb6,pk,pk,pk,pk])
 rintro ⟨⟩
 exact rT (o2++[pb hb4,pb hb5,pb hb6])
 rintro ⟨⟩
 exact rT (o2++[pb hb4,pb hb5])
 rintro ⟨⟩
 exact rT (o2++[pb hb4])
 rintro ⟨⟩
 exact rT (o1++[pb hb2,pk,pk,pb hb3])
 rintro ⟨⟩
 exact rT (o1++[pb hb2])
 rintro ⟨⟩
 exact rT [pk,pk,pb hb1]
noncomputable def DZ  (n:Nd):Option Bool:=cond (Bp n.n 0) (cond (Bp n.fr 0) (cond (Bp n.to 0) (cond (Bp n.known 0) (cond (Bp n.tab.den 0) (cond (Bp ((n.tab.ps.length:Nat):Int) 0) (cond (Bp ((n.kids.length:Nat):Int) 0) (some true) (some false)) (some false)) (some false)) (some false)) (some false)) (some false)) (some false)
theorem C0   {n:Nd} {yR:Bool} (h:DZ  n=some yR):Pure P G 66 [.agg (Bo n),.zi 3] (.zb yR):=by
 unfold DZ at h
 refine BF Hd.mixed Hd.Aa (Ay Tryz.func66 lH ?_) (AW (Am.Dp n) (AW rfl rfl)) rfl
 revert h
 let o1:LP:=[pk,pk,pk,pk,pk,pk]
 refine Ad (fun hb1=>?_) fun hb1=>?_
 let o2:LP:=o1++[pb hb1,pk,pk]
 refine Ad (fun hb2=>?_) fun hb2=>?_
 refine Ad (fun hb3=>?_) fun hb3=>?_
 refine Ad (fun hb4=>?_) fun hb4=>?_
 let o3:LP:=o2++[pb hb2,pb hb3,pb hb4,pk,pk]
 refine Ad (fun hb5=>?_) fun hb5=>?_
 refine Ad (fun hb6=>?_) fun hb6=>?_
 refine Ad (fun hb7=>?_) fun hb7=>?_
 rintro ⟨⟩
 exact rT (o3++[pb hb5,pb hb6,pk,pk,pb hb7])
 rintro ⟨⟩
 exact rT (o3++[pb hb5,pb hb6,pk,pk,pb hb7])
 rintro ⟨⟩
 exact rT (o3++[pb hb5,pb hb6])
 rintro ⟨⟩
 exact rT (o3++[pb hb5])
 rintro ⟨⟩
 exact rT (o2++[pb hb2,pb hb3,pb hb4])
 rintro ⟨⟩
 exact rT (o2++[pb hb2,pb hb3])
 rintro ⟨⟩
 exact rT (o2++[pb hb2])
 rintro ⟨⟩
 exact rT (o1++[pb hb1])
noncomputable def DY  (n:Nd):Option Bool:=cond (Bp n.fr 0) (cond (Bp n.to 0) (cond (Bp n.known 0) (cond (Bp n.tab.den 0) (cond (Bp ((n.tab.ps.length:Nat):Int) 0) (cond (Bp ((n.kids.length:Nat):Int) 0) (some true) (some false)) (some false)) (some false)) (some false)) (some false)) (some false)
theorem Dm   {n:Nd} {yR:Bool} (h:DY  n=some yR):Pure P G 66 [.agg (Bo n),.zi 7] (.zb yR):=by
 unfold DY at h
 refine BF Hd.mixed Hd.Aa (Ay Tryz.func66 lH ?_) (AW (Am.Dp n) (AW rfl rfl)) rfl
 revert h
 let o1:LP:=[pk,pk,pk,pk,pk,pk,pk,pk]
 refine Ad (fun hb1=>?_) fun hb1=>?_
 refine Ad (fun hb2=>?_) fun hb2=>?_
 refine Ad (fun hb3=>?_) fun hb3=>?_
 let o2:LP:=o1++[pb hb1,pb hb2,pb hb3,pk,pk]
 refine Ad (fun hb4=>?_) fun hb4=>?_
 refine Ad (fun hb5=>?_) fun hb5=>?_
 refine Ad (fun hb6=>?_) fun hb6=>?_
 rintro ⟨⟩
 exact rT (o2++[pb hb4,pb hb5,pk,pk,pb hb6])
 rintro ⟨⟩
 exact rT (o2++[pb hb4,pb hb5,pk,pk,pb hb6])
 rintro ⟨⟩
 exact rT (o2++[pb hb4,pb hb5])
 rintro ⟨⟩
 exact rT (o2++[pb hb4])
 rintro ⟨⟩
 exact rT (o1++[pb hb1,pb hb2,pb hb3])
 rintro ⟨⟩
 exact rT (o1++[pb hb1,pb hb2])
 rintro ⟨⟩
 exact rT (o1++[pb hb1])
noncomputable def Dr  (n:Nd):Option Bool:=cond (BC n.unit.data.toList ByteArray.empty.data.toList) (cond (Bp n.fr 0) (cond (Bp n.to 0) (cond (Bp n.known 0) (cond (Bp n.tab.den 0) (cond (Bp ((n.tab.ps.length:Nat):Int) 0) (some true) (some false)) (some false)) (some false)) (some false)) (some false)) (some false)
theorem Gd   {n:Nd} {yR:Bool} (h:Dr  n=some yR):Pure P G 66 [.agg (Bo n),.zi 37] (.zb yR):=by
 unfold Dr at h
 refine BF Hd.mixed Hd.Aa (Ay Tryz.func66 lH ?_) (AW (Am.Dp n) (AW rfl rfl)) rfl
 revert h
 let o1:LP:=[pk,pk,pk,pk]
 refine Ad (fun hb1=>?_) fun hb1=>?_
 let o2:LP:=o1++[pb hb1,pk,pk,pk,pk]
 refine Ad (fun hb2=>?_) fun hb2=>?_
 refine Ad (fun hb3=>?_) fun hb3=>?_
 refine Ad (fun hb4=>?_) fun hb4=>?_
 refine Ad (fun hb5=>?_) fun hb5=>?_
 refine Ad (fun hb6=>?_) fun hb6=>?_
 rintro ⟨⟩
 exact rT (o2++[pb hb2,pb hb3,pb hb4,pk,pk,pb hb5,pb hb6,pk,pk])
 rintro ⟨⟩
 exact rT (o2++[pb hb2,pb hb3,pb hb4,pk,pk,pb hb5,pb hb6])
 rintro ⟨⟩
 exact rT (o2++[pb hb2,pb hb3,pb hb4,pk,pk,pb hb5])
 rintro ⟨⟩
 exact rT (o2++[pb hb2,pb hb3,pb hb4])
 rintro ⟨⟩
 exact rT (o2++[pb hb2,pb hb3])
 rintro ⟨⟩
 exact rT (o2++[pb hb2])
 rintro ⟨⟩
 exact rT (o1++[pb hb1])
noncomputable def Gs  (n:Nd):Option Bool:=cond (BC n.name.data.toList ByteArray.empty.data.toList) (cond (BC n.unit.data.toList ByteArray.empty.data.toList) (cond (Bp n.tab.den 0) (cond (Bp ((n.tab.ps.length:Nat):Int) 0) (cond (Bp ((n.kids.length:Nat):Int) 0) (some true) (some false)) (some false)) (some false)) (some false)) (some false)
theorem Oy   {n:Nd} {yR:Bool} (h:Gs  n=some yR):Pure P G 66 [.agg (Bo n),.zi 12] (.zb yR):=by
 unfold Gs at h
 refine BF Hd.mixed Hd.Aa (Ay Tryz.func66 lH ?_) (AW (Am.Dp n) (AW rfl rfl)) rfl
 revert h
 refine Ad (fun hb1=>?_) fun hb1=>?_
 let o1:LP:=[pk,pk,pb hb1,pk,pk]
 refine Ad (fun hb2=>?_) fun hb2=>?_
 let o2:LP:=o1++[pb hb2,pk,pk,pk,pk,pk,pk]
 refine Ad (fun hb3=>?_) fun hb3=>?_
 refine Ad (fun hb4=>?_) fun hb4=>?_
 refine Ad (fun hb5=>?_) fun hb5=>?_
 rintro ⟨⟩
 exact rT (o2++[pb hb3,pb hb4,pk,pk,pb hb5])
 rintro ⟨⟩
 exact rT (o2++[pb hb3,pb hb4,pk,pk,pb hb5])
 rintro ⟨⟩
 exact rT (o2++[pb hb3,pb hb4])
 rintro ⟨⟩
 exact rT (o2++[pb hb3])
 rintro ⟨⟩
 exact rT (o1++[pb hb2])
 rintro ⟨⟩
 exact rT [pk,pk,pb hb1]
noncomputable def yU:Code:=AY Tryz.f104
theorem adS:Tryz.f104.body=some yU:=by kernel_rfl
noncomputable def LA  (s:ByteArray) (i0:Nat) (e0:ByteArray) :Option (Lp Unit Unit Bool):=cond (BC e0.data.toList s.data.toList) (some (.rt true)) (some (.nx ()))
noncomputable def Hp  (l:(List ByteArray)) (s:ByteArray):Option Bool:=(GW l.length (AL (fun i y x=>LA  s i y ) (fun x=>()) (l.drop 0) 0 ())).bind (GQ (fun (_:Unit)=>some false) (fun v=>some v))
theorem Ic   {l:(List ByteArray)} {s:ByteArray} {yR:Bool} (h:Hp  l s=some yR):Pure P G 104 [.sl .lost l.length (rows K8 l),.zs s] (.zb yR):=by
 unfold Hp at h
 refine BF Hd.mixed Hd.Aa (Ay Tryz.func104 adS ?_) (AW (Bw.Bk l) (AW rfl rfl)) rfl
 revert h
 refine DF (fun Q v=>EQ P Tryz.f104 0 Q (.zb v)) (fun i0 (_:Unit) (j0:List Value)=>fr 18 [(0,.sl .lost l.length (rows K8 l)),(1,.zs s),(5,.zi ((i0:Nat):Int))] [4,9,17] j0) (fun (_:Unit)=>⟨[],0,[],0⟩) (fun (_:Unit) (jx:List Value)=>fr 18 [] [4,9,17] jx) (fun (_:Unit)=>⟨[],0,[],0⟩) [bF] (Dq [] 0 (sb yU 52) [.code (sb yU 7)] (Ag 300 []) (by kernel_rfl)) ?_ ?_ ?_ (fun v h=>by cases h;exact .outer .body)
 rintro i0 ⟨⟩ j0 hge hq
 exact B1 (Ag 300 [pb (IJ hge)]) (by kernel_rfl) (hq (js 3 j0 [(1,bF)]))
 rintro i0 e0 ⟨⟩ j0 r he0 hi0 mi0 k
 show LA  s i0 e0 =some r→_
 unfold LA
 refine Ad (fun hb1=>?_) fun hb1=>?_
 rintro ⟨⟩
 exact Ap _ _ (Ag 300 [pb (Fk hi0),BT (Mr .lost he0),pb hb1]) (by kernel_rfl) (.Em k) .sc
 rintro ⟨⟩
 exact D9 (Ag 300 [pb (Fk hi0),BT (Mr .lost he0),pb hb1,pi mi0]) (by kernel_rfl) (k [(jv j0 0),bT,bF])
 rintro ⟨⟩ jx_1
 rintro ⟨⟩
 exact Ap _ _ (BJ 300 []) (by kernel_rfl) .body .sc
noncomputable def afb:Code:=AY Tryz.f141
theorem ad5:Tryz.f141.body=some afb:=by kernel_rfl
noncomputable def G1  (c:Int):Option Bool:=cond (Kt 97 c) (cond (Kt c 122) (some true) (some false)) (some false)
theorem Mi   {c:Int} {yR:Bool} (h:G1  c=some yR):Pure P G 141 [.sc (.int .u8 c)] (.zb yR):=by
 unfold G1 at h
 refine BF Hd.mixed Hd.Aa (Ay Tryz.func141 ad5 ?_) (AW rfl rfl) rfl
 revert h
 refine Ad (fun hb1=>?_) fun hb1=>?_
 refine Ad (fun hb2=>?_) fun hb2=>?_
 rintro ⟨⟩
 exact rT [pb hb1,pb hb2]
 rintro ⟨⟩
 exact rT [pb hb1,pb hb2]
 rintro ⟨⟩
 exact rT [pb hb1]
noncomputable def ae3:Code:=AY Tryz.f142
theorem aec:Tryz.f142.body=some ae3:=by kernel_rfl
noncomputable def KG  :Option (List ByteArray):=some [Tn,S3,KY,Y5,Sn,SY,u6,Pg,TB,MI,MC,Ak,AF,BM,X6,SV,M8,Pb,Tp,Um,IP,YV,U0,SA,O6,XX,EV,Oo,H8,Ks,Jt,Ec,O9]
theorem Na    {yR:(List ByteArray)} (h:KG  =some yR):Pure P G 142 [] (.sl .lost yR.length (rows K8 yR)):=by
 unfold KG at h
 refine BF Hd.mixed Hd.Aa (Ay Tryz.func142 aec ?_) rfl (Bw.Bk yR)
 revert h
 rintro ⟨⟩
 exact Ap (v:=.sl .full 33 (.zs Tn::.zs S3::.zs KY::.zs Y5::.zs Sn::.zs SY::.zs u6::.zs Pg::.zs TB::.zs MI::.zs MC::.zs Ak::.zs AF::.zs BM::.zs X6::.zs SV::.zs M8::.zs Pb::.zs Tp::.zs Um::.zs IP::.zs YV::.zs U0::.zs SA::.zs O6::.zs XX::.zs EV::.zs Oo::.zs H8::.zs Ks::.zs Jt::.zs Ec::.zs O9::[])) _ _ (Ag 300 []) (by kernel_rfl) .body (.wn (.d (.r (.r (.r (.r (.r (.r (.r (.r (.r (.r (.r (.r (.r (.r (.r (.r (.r (.r (.r (.r (.r (.r (.r (.r (.r (.r (.r (.r (.r (.r (.r (.r (.r .nil))))))))))))))))))))))))))))))))) (Bw.eq [Tn,S3,KY,Y5,Sn,SY,u6,Pg,TB,MI,MC,Ak,AF,BM,X6,SV,M8,Pb,Tp,Um,IP,YV,U0,SA,O6,XX,EV,Oo,H8,Ks,Jt,Ec,O9]).symm .nil) (Bw.Bk [Tn,S3,KY,Y5,Sn,SY,u6,Pg,TB,MI,MC,Ak,AF,BM,X6,SV,M8,Pb,Tp,Um,IP,YV,U0,SA,O6,XX,EV,Oo,H8,Ks,Jt,Ec,O9]))
noncomputable def aeK:Code:=AY Tryz.f143
theorem aet:Tryz.f143.body=some aeK:=by kernel_rfl
noncomputable def Ip  (c:Int):Option Bool:=cond (Kt 48 c) (cond (Kt c 57) (some true) (some false)) (some false)
theorem QG   {c:Int} {yR:Bool} (h:Ip  c=some yR):Pure P G 143 [.sc (.int .u8 c)] (.zb yR):=by
 unfold Ip at h
 refine BF Hd.mixed Hd.Aa (Ay Tryz.func143 aet ?_) (AW rfl rfl) rfl
 revert h
 refine Ad (fun hb1=>?_) fun hb1=>?_
 refine Ad (fun hb2=>?_) fun hb2=>?_
 rintro ⟨⟩
 exact rT [pb hb1,pb hb2]
 rintro ⟨⟩
 exact rT [pb hb1,pb hb2]
 rintro ⟨⟩
 exact rT [pb hb1]
noncomputable def B95:Code:=AY Tryz.f95
theorem b95:Tryz.f95.body=some B95:=by kernel_rfl
noncomputable def JM   (i0:Nat) (e0:UInt8) :Option (Lp Unit Unit Bool):=(G1 ((e0.toNat:Nat):Int)).bind fun y5=>cond y5 (some (.nx ())) ((Ip ((e0.toNat:Nat):Int)).bind fun y6=>cond y6 (some (.nx ())) (cond (Bp ((e0.toNat:Nat):Int) 95) (some (.nx ())) (some (.rt false))))
noncomputable def HV  (s:ByteArray):Option Bool:=cond (DH ((s.data.toList.length:Nat):Int) 1) (some false) (cond (DH 16 ((s.data.toList.length:Nat):Int)) (some false) ((s.data.toList[0]?).bind fun c1=>(G1 ((c1.toNat:Nat):Int)).bind fun y2=>cond y2 ((KG).bind fun y3=>(Hp y3 s).bind fun y4=>cond y4 (some false) ((GW s.data.toList.length (AL (fun i y x=>JM   i y ) (fun x=>()) (s.data.toList.drop 0) 0 ())).bind (GQ (fun (_:Unit)=>some true) (fun v=>some v)))) (some false)))
theorem M9   {s:ByteArray} {yR:Bool} (h:HV  s=some yR):Pure P G 95 [.zs s] (.zb yR):=by
 unfold HV at h
 refine BF Hd.mixed Hd.Aa (Ay Tryz.func95 b95 ?_) (AW rfl rfl) rfl
 revert h
 refine Ad (fun hb1=>?_) fun hb1=>?_
 rintro ⟨⟩
 exact rT [pb hb1]
 refine Ad (fun hb2=>?_) fun hb2=>?_
 rintro ⟨⟩
 exact rT [pb hb1,pb hb2]
 refine Ah fun c1 hc1=>?_
 refine Ah fun y2 hy2=>?_
 let o1:LP:=[pb hb1,pb hb2,R6 (KP hc1),An (Mi hy2)]
 refine Ad (fun hv=>?_) fun hv=>?_
 subst hv
 refine Ah fun y3 hy3=>?_
 refine Ah fun y4 hy4=>?_
 refine Ad (fun hv=>?_) fun hv=>?_
 subst hv
 rintro ⟨⟩
 exact rT (o1++[An (Na hy3),An (Ic hy4)])
 subst hv
 refine DF (fun Q v=>EQ P Tryz.f95 0 Q (.zb v)) (fun i0 (_:Unit) (j0:List Value)=>fr 47 [(0,.zs s),(3,.zi ((i0:Nat):Int))] [2,6,7,10,11,12,15,16,17,18,21,22,26,32,33,34,38,39,40,41,45,46] j0) (fun (_:Unit)=>⟨[],0,[],0⟩) (fun (_:Unit) (jx:List Value)=>fr 47 [] [2,6,7,10,11,12,15,16,17,18,21,22,26,32,33,34,38,39,40,41,45,46] jx) (fun (_:Unit)=>⟨[],0,[],0⟩) [bF,bF,bF,bF,bF,bF,bT,bF,bF,bF,bF,bF] (Dq [] 0 (sb B95 116) [.code (sb B95 15)] (Ag 300 (o1++[An (Na hy3),An (Ic hy4)])) (by kernel_rfl)) ?_ ?_ ?_ (fun v h=>by cases h;exact .outer .body)
 rintro i0 ⟨⟩ j0 hge hq
 exact B1 (Ag 300 [pb (IJ hge)]) (by kernel_rfl) (hq (js 22 j0 [(12,bF)]))
 rintro i0 e0 ⟨⟩ j0 r he0 hi0 mi0 k
 show JM   i0 e0 =some r→_
 unfold JM
 refine Ah fun y5 hy5=>?_
 let o2:LP:=[pb (Fk hi0),R6 (KP he0),An (Mi hy5)]
 refine Ad (fun hv=>?_) fun hv=>?_
 subst hv
 rintro ⟨⟩
 exact D9 (Ag 300 (o2++[pi mi0])) (by kernel_rfl) (k (js 22 j0 [(12,bT),(13,bT),(14,bF),(15,bF),(16,undef),(17,undef),(18,bF),(19,bF),(20,undef),(21,bF)]))
 subst hv
 refine Ah fun y6 hy6=>?_
 let o3:LP:=o2++[R6 (KP he0),An (QG hy6)]
 refine Ad (fun hv=>?_) fun hv=>?_
 subst hv
 rintro ⟨⟩
 exact D9 (Ag 300 (o3++[pi mi0])) (by kernel_rfl) (k (js 22 j0 [(12,bT),(13,bF),(14,bT),(15,bT),(16,bT),(17,bF),(18,bF),(19,bF),(20,undef),(21,bF)]))
 subst hv
 refine Ad (fun hb3=>?_) fun hb3=>?_
 rintro ⟨⟩
 exact D9 (Ag 300 (o3++[R6 (KP he0),pn hb3,pi mi0])) (by kernel_rfl) (k (js 22 j0 [(12,bT),(13,bF),(14,bT),(15,bT),(16,bF),(17,bT),(18,bT),(19,bT),(20,bF),(21,bF)]))
 rintro ⟨⟩
 exact Ap _ _ (Ag 300 (o3++[R6 (KP he0),pn hb3])) (by kernel_rfl) (.Em k) .sc
 rintro ⟨⟩ jx_7
 rintro ⟨⟩
 exact Ap _ _ (BJ 300 []) (by kernel_rfl) .body .sc
 subst hv
 rintro ⟨⟩
 exact rT o1
noncomputable def adz:Code:=AY Tryz.f102
theorem aeM:Tryz.f102.body=some adz:=by kernel_rfl
noncomputable def Bj  (n:Int) (low:Int) (high:Int):Option Bool:=cond (Kt low n) (cond (Kt n high) (some true) (some false)) (some false)
theorem AM   {n:Int} {low:Int} {high:Int} {yR:Bool} (h:Bj  n low high=some yR):Pure P G 102 [.zi n,.zi low,.zi high] (.zb yR):=by
 unfold Bj at h
 refine BF Hd.mixed Hd.Aa (Ay Tryz.func102 aeM ?_) (AW rfl (AW rfl (AW rfl rfl))) rfl
 revert h
 refine Ad (fun hb1=>?_) fun hb1=>?_
 refine Ad (fun hb2=>?_) fun hb2=>?_
 rintro ⟨⟩
 exact rT [pb hb1,pb hb2]
 rintro ⟨⟩
 exact rT [pb hb1,pb hb2]
 rintro ⟨⟩
 exact rT [pb hb1]
noncomputable def aef:Code:=AY Tryz.f148
theorem aei:Tryz.f148.body=some aef:=by kernel_rfl
noncomputable def F8  (c:Int):Option Bool:=cond (Kt 65 c) (cond (Kt c 90) (some true) (some false)) (some false)
theorem HK   {c:Int} {yR:Bool} (h:F8  c=some yR):Pure P G 148 [.sc (.int .u8 c)] (.zb yR):=by
 unfold F8 at h
 refine BF Hd.mixed Hd.Aa (Ay Tryz.func148 aei ?_) (AW rfl rfl) rfl
 revert h
 refine Ad (fun hb1=>?_) fun hb1=>?_
 refine Ad (fun hb2=>?_) fun hb2=>?_
 rintro ⟨⟩
 exact rT [pb hb1,pb hb2]
 rintro ⟨⟩
 exact rT [pb hb1,pb hb2]
 rintro ⟨⟩
 exact rT [pb hb1]
noncomputable def adW:Code:=AY Tryz.f103
theorem aeF:Tryz.f103.body=some adW:=by kernel_rfl
noncomputable def Hr  (s:ByteArray):Option Bool:=cond (Bp ((s.data.toList.length:Nat):Int) 3) ((s.data.toList[0]?).bind fun c1=>(F8 ((c1.toNat:Nat):Int)).bind fun y2=>cond y2 ((s.data.toList[1]?).bind fun c3=>(F8 ((c3.toNat:Nat):Int)).bind fun y4=>cond y4 ((s.data.toList[2]?).bind fun c5=>(F8 ((c5.toNat:Nat):Int)).bind fun y6=>some y6) (some false)) (some false)) (some false)
theorem I6   {s:ByteArray} {yR:Bool} (h:Hr  s=some yR):Pure P G 103 [.zs s] (.zb yR):=by
 unfold Hr at h
 refine BF Hd.mixed Hd.Aa (Ay Tryz.func103 aeF ?_) (AW rfl rfl) rfl
 revert h
 refine Ad (fun hb1=>?_) fun hb1=>?_
 refine Ah fun c1 hc1=>?_
 refine Ah fun y2 hy2=>?_
 let o1:LP:=[pb hb1,R6 (KP hc1),An (HK hy2)]
 refine Ad (fun hv=>?_) fun hv=>?_
 subst hv
 refine Ah fun c3 hc3=>?_
 refine Ah fun y4 hy4=>?_
 refine Ad (fun hv=>?_) fun hv=>?_
 subst hv
 refine Ah fun c5 hc5=>?_
 refine Ah fun y6 hy6=>?_
 rintro ⟨⟩
 exact rT (o1++[R6 (KP hc3),An (HK hy4),R6 (KP hc5),An (HK hy6)])
 subst hv
 rintro ⟨⟩
 exact rT (o1++[R6 (KP hc3),An (HK hy4)])
 subst hv
 rintro ⟨⟩
 exact rT o1
 rintro ⟨⟩
 exact rT [pb hb1]
noncomputable def afc:Code:=AY Tryz.f105
theorem ad0:Tryz.f105.body=some afc:=by kernel_rfl
noncomputable def Gi  (n:Nd):Option Bool:=cond (Bp n.kind 11) ((FQ n).bind fun y1=>cond y1 (cond (BC n.unit.data.toList AF.data.toList) ((Bj n.n 1 1000000).bind fun y2=>some y2) (some false)) (some false)) (some false)
theorem IW   {n:Nd} {yR:Bool} (h:Gi  n=some yR):Pure P G 105 [.agg (Bo n)] (.zb yR):=by
 unfold Gi at h
 refine BF Hd.mixed Hd.Aa (Ay Tryz.func105 ad0 ?_) (AW (Am.Dp n) rfl) rfl
 revert h
 refine Ad (fun hb1=>?_) fun hb1=>?_
 refine Ah fun y1 hy1=>?_
 let o1:LP:=[pb hb1,An (KZ hy1)]
 refine Ad (fun hv=>?_) fun hv=>?_
 subst hv
 refine Ad (fun hb2=>?_) fun hb2=>?_
 refine Ah fun y2 hy2=>?_
 rintro ⟨⟩
 exact rT (o1++[pb hb2,An (AM hy2)])
 rintro ⟨⟩
 exact rT (o1++[pb hb2])
 subst hv
 rintro ⟨⟩
 exact rT o1
 rintro ⟨⟩
 exact rT [pb hb1]
noncomputable def xP:Code:=AY Tryz.f107
theorem aeZ:Tryz.f107.body=some xP:=by kernel_rfl
noncomputable def IQ  (f:Fn) (i0:Nat) (e0:Pc) :Option (Lp Unit Unit Bool):=(T4 e0.att f.den).bind fun z3=>cond (Bp z3 0) ((iU e0.att f.den).bind fun z4=>(Bj z4 (-999999999999) 999999999999).bind fun y5=>cond y5 ((Bj e0.slope (-1000000) 1000000).bind fun y6=>cond y6 (cond (DH 999999999999 e0.fr) (some (.rt false)) (cond (Bp ((i0:Nat):Int) 0) (cond (Bp e0.fr 0) (some (.nx ())) (some (.rt false))) (cond (DH 0 ((i0:Nat):Int)) ((CP f.ps (Ua ((i0:Nat):Int) 1)).bind fun x7=>cond (Kt e0.fr x7.fr) (some (.rt false)) (some (.nx ()))) (some (.nx ()))))) (some (.rt false))) (some (.rt false))) (some (.rt false))
noncomputable def Il  (f:Fn):Option Bool:=(Bj f.den 1 1000000).bind fun y1=>cond y1 ((Bj ((f.ps.length:Nat):Int) 1 64).bind fun y2=>cond y2 ((GW f.ps.length (AL (fun i y x=>IQ  f i y ) (fun x=>()) (f.ps.drop 0) 0 ())).bind (GQ (fun (_:Unit)=>some true) (fun v=>some v))) (some false)) (some false)
theorem QN   {f:Fn} {yR:Bool} (h:Il  f=some yR):Pure P G 107 [.agg (Uh f)] (.zb yR):=by
 unfold Il at h
 refine BF Hd.mixed Hd.Aa (Ay Tryz.func107 aeZ ?_) (AW (L6.Dp f) rfl) rfl
 revert h
 refine Ah fun y1 hy1=>?_
 refine Ad (fun hv=>?_) fun hv=>?_
 subst hv
 refine Ah fun y2 hy2=>?_
 refine Ad (fun hv=>?_) fun hv=>?_
 subst hv
 refine DF (fun Q v=>EQ P Tryz.f107 0 Q (.zb v)) (fun i0 (_:Unit) (j0:List Value)=>fr 79 [(1,.ptr 0 0),(3,.zi ((i0:Nat):Int))] [2,7,8,9,13,14,15,20,33,34,40,41,42,43,46,47,48,49,52,53,54,56,57,60,61,62,63,65,66,76,77,78] j0) (fun (_:Unit)=>⟨[(0,.cells (Uh f))],1,[],0⟩) (fun (_:Unit) (jx:List Value)=>fr 79 [] [2,7,8,9,13,14,15,20,33,34,40,41,42,43,46,47,48,49,52,53,54,56,57,60,61,62,63,65,66,76,77,78] jx) (fun (_:Unit)=>⟨[(0,.cells (Uh f))],1,[],0⟩) [bF,bT,bF,bF,bT,bF,bF] (Dq [] 0 (sb xP 116) [.code (sb xP 15)] (Ag 300 [An (AM hy1),An (AM hy2)]) (by kernel_rfl)) ?_ ?_ ?_ (fun v h=>by cases h;exact .outer .body)
 rintro i0 ⟨⟩ j0 hge hq
 exact B1 (Ag 300 [pb (IJ hge)]) (by kernel_rfl) (hq (js 32 j0 [(7,bF)]))
 rintro i0 e0 ⟨⟩ j0 r he0 hi0 mi0 k
 show IQ  f i0 e0 =some r→_
 unfold IQ
 refine Ah fun z3 hz3=>?_
 let o1:LP:=[pb (Fk hi0),BT (QB .lost he0),CD (VU hz3 (.tmp 29) (.tmp 31))]
 refine Ad (fun hb1=>?_) fun hb1=>?_
 refine Ah fun z4 hz4=>?_
 refine Ah fun y5 hy5=>?_
 let o2:LP:=o1++[pn hb1,CD (mS hz4 (.tmp 36) (.tmp 38)),An (AM hy5)]
 refine Ad (fun hv=>?_) fun hv=>?_
 subst hv
 refine Ah fun y6 hy6=>?_
 let o3:LP:=o2++[An (AM hy6)]
 refine Ad (fun hv=>?_) fun hv=>?_
 subst hv
 refine Ad (fun hb2=>?_) fun hb2=>?_
 rintro ⟨⟩
 exact Ap _ _ (Ag 300 (o3++[pb hb2])) (by kernel_rfl) (.Em k) .sc
 refine Ad (fun hb3=>?_) fun hb3=>?_
 refine Ad (fun hb4=>?_) fun hb4=>?_
 rintro ⟨⟩
 exact Bt Hd.Aa [] [bp (L6.pl f)] (Ag 300 (o3++[pb hb2,pb hb3,pn hb4,pb (B:=DH 0 ((i0:Nat):Int)) (b:=false) (fL (by have:=H2 hb3;omega)),pi mi0])) (by kernel_rfl) (k [(jv j0 0),(jv j0 1),(jv j0 2),(jv j0 3),(jv j0 4),(jv j0 5),(jv j0 6),bT,bF,bF,bT,bF,bF,bF,bT,bF,bF,bF,bF,bF,bF,bT,bT,bF,bF,bF,bF,bF,bF,undef,bF,bF])
 rintro ⟨⟩
 exact Ap _ _ (Ag 300 (o3++[pb hb2,pb hb3,pn hb4])) (by kernel_rfl) (.Em k) .sc
 refine Ad (fun hb5=>?_) fun hb5=>?_
 refine Ah fun x7 hx7=>?_
 refine Ad (fun hb6=>?_) fun hb6=>?_
 rintro ⟨⟩
 exact Ap _ _ (Ag 300 (o3++[pb hb2,pb hb3,pb hb5,pk,BT (Z2 .lost hx7),pb hb6])) (by kernel_rfl) (.Em k) .sc
 rintro ⟨⟩
 exact Bt Hd.Aa [] [bp (L6.pl f)] (Ag 300 (o3++[pb hb2,pb hb3,pb hb5,pk,BT (Z2 .lost hx7),pb hb6,pi mi0])) (by kernel_rfl) (k [(jv j0 0),(jv j0 1),(jv j0 2),(jv j0 3),(jv j0 4),(jv j0 5),(jv j0 6),bT,bF,bF,bT,bF,bF,bF,bT,bF,bF,bF,bF,bF,bF,bF,bF,undef,bF,bF,bF,bT,bT,bF,bF,bF])
 rintro ⟨⟩
 exact Bt Hd.Aa [] [bp (L6.pl f)] (Ag 300 (o3++[pb hb2,pb hb3,pb hb5,pi mi0])) (by kernel_rfl) (k [(jv j0 0),(jv j0 1),(jv j0 2),(jv j0 3),(jv j0 4),(jv j0 5),(jv j0 6),bT,bF,bF,bT,bF,bF,bF,bT,bF,bF,bF,bF,bF,bF,bF,bF,undef,bF,bF,bF,bF,bF,undef,bF,bF])
 subst hv
 rintro ⟨⟩
 exact Ap _ _ (Ag 300 o3) (by kernel_rfl) (.Em k) .sc
 subst hv
 rintro ⟨⟩
 exact Ap _ _ (Ag 300 o2) (by kernel_rfl) (.Em k) .sc
 rintro ⟨⟩
 exact Ap _ _ (Ag 300 (o1++[pn hb1])) (by kernel_rfl) (.Em k) .sc
 rintro ⟨⟩ jx_8
 rintro ⟨⟩
 exact Ap _ _ (BJ 300 []) (by kernel_rfl) .body .sc
 subst hv
 rintro ⟨⟩
 exact rT [An (AM hy1),An (AM hy2)]
 subst hv
 rintro ⟨⟩
 exact rT [An (AM hy1)]
noncomputable def B64:Code:=AY Tryz.f64
theorem b64:Tryz.f64.body=some B64:=by kernel_rfl
noncomputable def KU (C7:Nd→Option Bool) (Ct:(List Nd)→Option Bool) (n:Nd):Option Bool:=cond (Bp n.kind 11) ((FQ n).bind fun y1=>cond y1 (cond (BC n.unit.data.toList Ak.data.toList) ((Bj n.n 0 1).bind fun y2=>cond y2 ((Bj n.n 0 999999999999).bind fun y3=>cond y3 ((Hr n.unit).bind fun y4=>cond y4 (some true) (some true)) (some false)) (some false)) ((Bj n.n 0 999999999999).bind fun y5=>cond y5 ((Hr n.unit).bind fun y6=>cond y6 (some true) (cond (BC n.unit.data.toList AF.data.toList) (some true) (cond (BC n.unit.data.toList BM.data.toList) (some true) (some false)))) (some false))) (some false)) (cond (Bp n.kind 12) ((FR n).bind fun y7=>cond y7 ((HV n.name).bind fun y8=>some y8) (some false)) (cond (Bp n.kind 13) ((GN n).bind fun y9=>cond y9 ((Bj n.n 1 1000000).bind fun y10=>some y10) (some false)) (cond (Bp n.kind 14) ((FR n).bind fun y11=>cond y11 ((Hp [EV,Oo,H8,Ks] n.name).bind fun y12=>some y12) (some false)) (cond (Bp n.kind 15) ((Ee n).bind fun y13=>cond y13 (cond (Bp ((n.kids.length:Nat):Int) 1) ((n.kids[0]?).bind fun x14=>(C7 x14).bind fun y15=>some y15) (some false)) (some false)) (cond (Bp n.kind 16) ((Fi n).bind fun y16=>cond y16 (cond (Bp ((n.kids.length:Nat):Int) 2) (cond (BC n.name.data.toList Kf.data.toList) ((n.kids[1]?).bind fun x17=>(Gi x17).bind fun y18=>cond y18 ((Hp [Um,IP,I2,Iw,PK,Ix,K5,Pe,PY,Kf,U0] n.name).bind fun y19=>cond y19 ((Ct n.kids).bind fun y20=>some y20) (some false)) (some false)) ((Hp [Um,IP,I2,Iw,PK,Ix,K5,Pe,PY,Kf,U0] n.name).bind fun y21=>cond y21 ((Ct n.kids).bind fun y22=>some y22) (some false))) (some false)) (some false)) (cond (Bp n.kind 17) ((Fi n).bind fun y23=>cond y23 (cond (Kt 2 ((n.kids.length:Nat):Int)) (cond (BC n.name.data.toList Jt.data.toList) ((Ct n.kids).bind fun y24=>some y24) (cond (BC n.name.data.toList Ec.data.toList) ((Ct n.kids).bind fun y25=>some y25) (some false))) (some false)) (some false)) (cond (Bp n.kind 18) ((Gk n).bind fun y26=>cond y26 (cond (Bp ((n.kids.length:Nat):Int) 1) ((n.kids[0]?).bind fun x27=>(C7 x27).bind fun y28=>cond y28 ((Il n.tab).bind fun y29=>some y29) (some false)) (some false)) (some false)) (some false))))))))
theorem Rq (C7:Nd→Option Bool) (Ct:(List Nd)→Option Bool) (GZ:∀ {n:Nd} {yR:Bool},C7 n=some yR→Pure P G 64 [.agg (Bo n)] (.zb yR)) (Hx:∀ {l:(List Nd)} {yR:Bool},Ct l=some yR→Pure P G 106 [.sl .lost l.length (Cg l)] (.zb yR)) {n:Nd} {yR:Bool} (h:KU C7 Ct n=some yR):Pure P G 64 [.agg (Bo n)] (.zb yR):=by
 unfold KU at h
 refine BF Hd.mixed Hd.Aa (Ay Tryz.func64 b64 ?_) (AW (Am.Dp n) rfl) rfl
 revert h
 refine Ad (fun hb1=>?_) fun hb1=>?_
 refine Ah fun y1 hy1=>?_
 let o1:LP:=[pb hb1,An (KZ hy1)]
 refine Ad (fun hv=>?_) fun hv=>?_
 subst hv
 refine Ad (fun hb2=>?_) fun hb2=>?_
 refine Ah fun y2 hy2=>?_
 let o2:LP:=o1++[pb hb2,An (AM hy2)]
 refine Ad (fun hv=>?_) fun hv=>?_
 subst hv
 refine Ah fun y3 hy3=>?_
 refine Ad (fun hv=>?_) fun hv=>?_
 subst hv
 refine Ah fun y4 hy4=>?_
 refine Ad (fun hv=>?_) fun hv=>?_
 subst hv
 rintro ⟨⟩
 exact rT (o2++[An (AM hy3),An (I6 hy4)])
 subst hv
 rintro ⟨⟩
 exact rT (o2++[An (AM hy3),An (I6 hy4),pb hb2])
 subst hv
 rintro ⟨⟩
 exact rT (o2++[An (AM hy3)])
 subst hv
 rintro ⟨⟩
 exact rT o2
 refine Ah fun y5 hy5=>?_
 let o3:LP:=o1++[pb hb2,An (AM hy5)]
 refine Ad (fun hv=>?_) fun hv=>?_
 subst hv
 refine Ah fun y6 hy6=>?_
 let o4:LP:=o3++[An (I6 hy6)]
 refine Ad (fun hv=>?_) fun hv=>?_
 subst hv
 rintro ⟨⟩
 exact rT o4
 subst hv
 refine Ad (fun hb3=>?_) fun hb3=>?_
 rintro ⟨⟩
 exact rT (o4++[pb hb2,pb hb3])
 refine Ad (fun hb4=>?_) fun hb4=>?_
 rintro ⟨⟩
 exact rT (o4++[pb hb2,pb hb3,pb hb4])
 rintro ⟨⟩
 exact rT (o4++[pb hb2,pb hb3,pb hb4])
 subst hv
 rintro ⟨⟩
 exact rT o3
 subst hv
 rintro ⟨⟩
 exact rT o1
 let o5:LP:=[pb hb1]
 refine Ad (fun hb5=>?_) fun hb5=>?_
 refine Ah fun y7 hy7=>?_
 refine Ad (fun hv=>?_) fun hv=>?_
 subst hv
 refine Ah fun y8 hy8=>?_
 rintro ⟨⟩
 exact rT (o5++[pb hb5,An (GC hy7),An (M9 hy8)])
 subst hv
 rintro ⟨⟩
 exact rT (o5++[pb hb5,An (GC hy7)])
 let o6:LP:=o5++[pb hb5]
 refine Ad (fun hb6=>?_) fun hb6=>?_
 refine Ah fun y9 hy9=>?_
 refine Ad (fun hv=>?_) fun hv=>?_
 subst hv
 refine Ah fun y10 hy10=>?_
 rintro ⟨⟩
 exact rT (o6++[pb hb6,An (Lb hy9),An (AM hy10)])
 subst hv
 rintro ⟨⟩
 exact rT (o6++[pb hb6,An (Lb hy9)])
 let o7:LP:=o6++[pb hb6]
 refine Ad (fun hb7=>?_) fun hb7=>?_
 refine Ah fun y11 hy11=>?_
 refine Ad (fun hv=>?_) fun hv=>?_
 subst hv
 refine Ah fun y12 hy12=>?_
 rintro ⟨⟩
 exact rT (o7++[pb hb7,An (GC hy11),Fl (args:=[.sl .full 4 [.zs EV,.zs Oo,.zs H8,.zs Ks],.zs n.name]) (.d (.r (.r (.r (.r .nil)))) (Bw.eq [EV,Oo,H8,Ks]).symm (.r .nil)) (Ic hy12)])
 subst hv
 rintro ⟨⟩
 exact rT (o7++[pb hb7,An (GC hy11)])
 let o8:LP:=o7++[pb hb7]
 refine Ad (fun hb8=>?_) fun hb8=>?_
 refine Ah fun y13 hy13=>?_
 let o9:LP:=o8++[pb hb8,An (H5 hy13)]
 refine Ad (fun hv=>?_) fun hv=>?_
 subst hv
 refine Ad (fun hb9=>?_) fun hb9=>?_
 refine Ah fun x14 hx14=>?_
 refine Ah fun y15 hy15=>?_
 rintro ⟨⟩
 exact rT (o9++[pb hb9,BT (BQ .lost hx14),An (GZ hy15)])
 rintro ⟨⟩
 exact rT (o9++[pb hb9])
 subst hv
 rintro ⟨⟩
 exact rT o9
 let o10:LP:=o8++[pb hb8]
 refine Ad (fun hb10=>?_) fun hb10=>?_
 refine Ah fun y16 hy16=>?_
 let o11:LP:=o10++[pb hb10,An (Kx hy16)]
 refine Ad (fun hv=>?_) fun hv=>?_
 subst hv
 refine Ad (fun hb11=>?_) fun hb11=>?_
 refine Ad (fun hb12=>?_) fun hb12=>?_
 refine Ah fun x17 hx17=>?_
 refine Ah fun y18 hy18=>?_
 let o12:LP:=o11++[pn hb11,pb hb12,BT (BQ .lost hx17),An (IW hy18)]
 refine Ad (fun hv=>?_) fun hv=>?_
 subst hv
 refine Ah fun y19 hy19=>?_
 let o13:LP:=o12++[Fl (args:=[.sl .full 11 [.zs Um,.zs IP,.zs I2,.zs Iw,.zs PK,.zs Ix,.zs K5,.zs Pe,.zs PY,.zs Kf,.zs U0],.zs n.name]) (.d (.r (.r (.r (.r (.r (.r (.r (.r (.r (.r (.r .nil))))))))))) (Bw.eq [Um,IP,I2,Iw,PK,Ix,K5,Pe,PY,Kf,U0]).symm (.r .nil)) (Ic hy19)]
 refine Ad (fun hv=>?_) fun hv=>?_
 subst hv
 refine Ah fun y20 hy20=>?_
 rintro ⟨⟩
 exact rT (o13++[An (Hx hy20)])
 subst hv
 rintro ⟨⟩
 exact rT o13
 subst hv
 rintro ⟨⟩
 exact rT o12
 refine Ah fun y21 hy21=>?_
 let o14:LP:=o11++[pn hb11,pb hb12,Fl (args:=[.sl .full 11 [.zs Um,.zs IP,.zs I2,.zs Iw,.zs PK,.zs Ix,.zs K5,.zs Pe,.zs PY,.zs Kf,.zs U0],.zs n.name]) (.d (.r (.r (.r (.r (.r (.r (.r (.r (.r (.r (.r .nil))))))))))) (Bw.eq [Um,IP,I2,Iw,PK,Ix,K5,Pe,PY,Kf,U0]).symm (.r .nil)) (Ic hy21)]
 refine Ad (fun hv=>?_) fun hv=>?_
 subst hv
 refine Ah fun y22 hy22=>?_
 rintro ⟨⟩
 exact rT (o14++[An (Hx hy22)])
 subst hv
 rintro ⟨⟩
 exact rT o14
 rintro ⟨⟩
 exact rT (o11++[pn hb11])
 subst hv
 rintro ⟨⟩
 exact rT o11
 let o15:LP:=o10++[pb hb10]
 refine Ad (fun hb13=>?_) fun hb13=>?_
 refine Ah fun y23 hy23=>?_
 let o16:LP:=o15++[pb hb13,An (Kx hy23)]
 refine Ad (fun hv=>?_) fun hv=>?_
 subst hv
 refine Ad (fun hb14=>?_) fun hb14=>?_
 refine Ad (fun hb15=>?_) fun hb15=>?_
 refine Ah fun y24 hy24=>?_
 rintro ⟨⟩
 exact rT (o16++[pb hb14,pb hb15,An (Hx hy24)])
 refine Ad (fun hb16=>?_) fun hb16=>?_
 refine Ah fun y25 hy25=>?_
 rintro ⟨⟩
 exact rT (o16++[pb hb14,pb hb15,pb hb16,An (Hx hy25)])
 rintro ⟨⟩
 exact rT (o16++[pb hb14,pb hb15,pb hb16])
 rintro ⟨⟩
 exact rT (o16++[pb hb14])
 subst hv
 rintro ⟨⟩
 exact rT o16
 refine Ad (fun hb17=>?_) fun hb17=>?_
 refine Ah fun y26 hy26=>?_
 let o17:LP:=o15++[pb hb13,pb hb17,An (Ow hy26)]
 refine Ad (fun hv=>?_) fun hv=>?_
 subst hv
 refine Ad (fun hb18=>?_) fun hb18=>?_
 refine Ah fun x27 hx27=>?_
 refine Ah fun y28 hy28=>?_
 refine Ad (fun hv=>?_) fun hv=>?_
 subst hv
 refine Ah fun y29 hy29=>?_
 rintro ⟨⟩
 exact rT (o17++[pb hb18,BT (BQ .lost hx27),An (GZ hy28),An (QN hy29)])
 subst hv
 rintro ⟨⟩
 exact rT (o17++[pb hb18,BT (BQ .lost hx27),An (GZ hy28)])
 rintro ⟨⟩
 exact rT (o17++[pb hb18])
 subst hv
 rintro ⟨⟩
 exact rT o17
 rintro ⟨⟩
 exact rT (o15++[pb hb13,pb hb17])
noncomputable def wY:Code:=AY Tryz.f106
theorem ad7:Tryz.f106.body=some wY:=by kernel_rfl
noncomputable def IU (C7:Nd→Option Bool) (Ct:(List Nd)→Option Bool)  (i0:Nat) (e0:Nd) :Option (Lp Unit Unit Bool):=(C7 e0).bind fun y1=>cond y1 (some (.nx ())) (some (.rt false))
noncomputable def JT (C7:Nd→Option Bool) (Ct:(List Nd)→Option Bool) (l:(List Nd)):Option Bool:=(GW l.length (AL (fun i y x=>IU C7 Ct  i y ) (fun x=>()) (l.drop 0) 0 ())).bind (GQ (fun (_:Unit)=>some true) (fun v=>some v))
theorem QW (C7:Nd→Option Bool) (Ct:(List Nd)→Option Bool) (GZ:∀ {n:Nd} {yR:Bool},C7 n=some yR→Pure P G 64 [.agg (Bo n)] (.zb yR)) (Hx:∀ {l:(List Nd)} {yR:Bool},Ct l=some yR→Pure P G 106 [.sl .lost l.length (Cg l)] (.zb yR)) {l:(List Nd)} {yR:Bool} (h:JT C7 Ct l=some yR):Pure P G 106 [.sl .lost l.length (Cg l)] (.zb yR):=by
 unfold JT at h
 refine BF Hd.mixed Hd.Aa (Ay Tryz.func106 ad7 ?_) (AW (Am.Bk l) rfl) rfl
 revert h
 refine DF (fun Q v=>EQ P Tryz.f106 0 Q (.zb v)) (fun i0 (_:Unit) (j0:List Value)=>fr 16 [(0,.sl .lost l.length (Cg l)),(3,.zi ((i0:Nat):Int))] [2,7,14,15] j0) (fun (_:Unit)=>⟨[],0,[],0⟩) (fun (_:Unit) (jx:List Value)=>fr 16 [] [2,7,14,15] jx) (fun (_:Unit)=>⟨[],0,[],0⟩) [bF] (Dq [] 0 (sb wY 52) [.code (sb wY 7)] (Ag 300 []) (by kernel_rfl)) ?_ ?_ ?_ (fun v h=>by cases h;exact .outer .body)
 rintro i0 ⟨⟩ j0 hge hq
 exact B1 (Ag 300 [pb (IJ hge)]) (by kernel_rfl) (hq (js 4 j0 [(1,bF)]))
 rintro i0 e0 ⟨⟩ j0 r he0 hi0 mi0 k
 show IU C7 Ct  i0 e0 =some r→_
 unfold IU
 refine Ah fun y1 hy1=>?_
 refine Ad (fun hv=>?_) fun hv=>?_
 subst hv
 rintro ⟨⟩
 exact D9 (Ag 300 [pb (Fk hi0),BT (BQ .lost he0),An (GZ hy1),pi mi0]) (by kernel_rfl) (k [(jv j0 0),bT,bT,bF])
 subst hv
 rintro ⟨⟩
 exact Ap _ _ (Ag 300 [pb (Fk hi0),BT (BQ .lost he0),An (GZ hy1)]) (by kernel_rfl) (.Em k) .sc
 rintro ⟨⟩ jx_2
 rintro ⟨⟩
 exact Ap _ _ (BJ 300 []) (by kernel_rfl) .body .sc
mutual
noncomputable def Dk:Nat→Nd→Option Bool
 | 0,_=>none
 | qn+1,n=>KU (Dk qn) (Ej qn) n
noncomputable def Ej:Nat→(List Nd)→Option Bool
 | 0,_=>none
 | qn+1,l=>JT (Dk qn) (Ej qn) l
end
theorem TE:∀ qn:Nat,(∀ {n:Nd} {yR:Bool},Dk qn n=some yR→Pure P G 64 [.agg (Bo n)] (.zb yR))∧(∀ {l:(List Nd)} {yR:Bool},Ej qn l=some yR→Pure P G 106 [.sl .lost l.length (Cg l)] (.zb yR)):=by
 intro qn
 induction qn with
 | zero=>exact ⟨(fun h=>by simp only [Dk] at h;cases h),(fun h=>by simp only [Ej] at h;cases h)⟩
 | succ qn ih=>exact ⟨(fun h=>Rq (Dk qn) (Ej qn) ih.1 ih.2 (by rw [Dk] at h;exact h)),(fun h=>QW (Dk qn) (Ej qn) ih.1 ih.2 (by rw [Ej] at h;exact h))⟩
noncomputable def HX (n:Nd):Option Bool:=W5 (fun qn=>Dk qn n)
theorem LK {n:Nd} {yR:Bool} (h:HX n=some yR):Pure P G 64 [.agg (Bo n)] (.zb yR):=by
 obtain ⟨qn,h⟩:=Ru h
 exact (TE qn).1 h
noncomputable def ad6:Code:=AY Tryz.f108
theorem adP:Tryz.f108.body=some ad6:=by kernel_rfl
noncomputable def E4  (n:Nd):Option Bool:=cond (Bp n.kind 5) ((Gs n).bind fun y1=>cond y1 ((Bj n.n 0 1000000).bind fun y2=>cond y2 ((Bj n.fr 0 36524).bind fun y3=>cond y3 ((Bj n.to (BW n.fr 1) 36525).bind fun y4=>cond y4 ((Bj n.known 0 36524).bind fun y5=>some y5) (some false)) (some false)) (some false)) (some false)) (some false)
theorem D0   {n:Nd} {yR:Bool} (h:E4  n=some yR):Pure P G 108 [.agg (Bo n)] (.zb yR):=by
 unfold E4 at h
 refine BF Hd.mixed Hd.Aa (Ay Tryz.func108 adP ?_) (AW (Am.Dp n) rfl) rfl
 revert h
 refine Ad (fun hb1=>?_) fun hb1=>?_
 refine Ah fun y1 hy1=>?_
 let o1:LP:=[pb hb1,An (Oy hy1)]
 refine Ad (fun hv=>?_) fun hv=>?_
 subst hv
 refine Ah fun y2 hy2=>?_
 let o2:LP:=o1++[An (AM hy2)]
 refine Ad (fun hv=>?_) fun hv=>?_
 subst hv
 refine Ah fun y3 hy3=>?_
 refine Ad (fun hv=>?_) fun hv=>?_
 subst hv
 refine Ah fun y4 hy4=>?_
 refine Ad (fun hv=>?_) fun hv=>?_
 subst hv
 refine Ah fun y5 hy5=>?_
 rintro ⟨⟩
 exact rT (o2++[An (AM hy3),pk,An (AM hy4),An (AM hy5)])
 subst hv
 rintro ⟨⟩
 exact rT (o2++[An (AM hy3),pk,An (AM hy4)])
 subst hv
 rintro ⟨⟩
 exact rT (o2++[An (AM hy3)])
 subst hv
 rintro ⟨⟩
 exact rT o2
 subst hv
 rintro ⟨⟩
 exact rT o1
 rintro ⟨⟩
 exact rT [pb hb1]
noncomputable def vX:Code:=AY Tryz.f149
theorem aeD:Tryz.f149.body=some vX:=by kernel_rfl
noncomputable def HL   (i0:Nat) (e0:Nd) :Option (Lp Unit Unit Bool):=(Gi e0).bind fun y1=>cond y1 (some (.nx ())) (some (.rt false))
noncomputable def GP  (l:(List Nd)):Option Bool:=(GW l.length (AL (fun i y x=>HL   i y ) (fun x=>()) (l.drop 0) 0 ())).bind (GQ (fun (_:Unit)=>cond (DH 0 ((l.length:Nat):Int)) (some true) (some false)) (fun v=>some v))
theorem Pj   {l:(List Nd)} {yR:Bool} (h:GP  l=some yR):Pure P G 149 [.sl .lost l.length (Cg l)] (.zb yR):=by
 unfold GP at h
 refine BF Hd.mixed Hd.Aa (Ay Tryz.func149 aeD ?_) (AW (Am.Bk l) rfl) rfl
 revert h
 refine DF (fun Q v=>EQ P Tryz.f149 0 Q (.zb v)) (fun i0 (_:Unit) (j0:List Value)=>fr 19 [(0,.sl .lost l.length (Cg l)),(3,.zi ((i0:Nat):Int))] [2,7,14,15,18] j0) (fun (_:Unit)=>⟨[],0,[],0⟩) (fun (_:Unit) (jx:List Value)=>fr 19 [(0,.sl .lost l.length (Cg l))] [2,7,14,15,18] jx) (fun (_:Unit)=>⟨[],0,[],0⟩) [bF] (Dq [] 0 (sb vX 52) [.code (sb vX 7)] (Ag 300 []) (by kernel_rfl)) ?_ ?_ ?_ (fun v h=>by cases h;exact .outer .body)
 rintro i0 ⟨⟩ j0 hge hq
 exact B1 (Ag 300 [pb (IJ hge)]) (by kernel_rfl) (hq (js 5 j0 [(1,bF)]))
 rintro i0 e0 ⟨⟩ j0 r he0 hi0 mi0 k
 show HL   i0 e0 =some r→_
 unfold HL
 refine Ah fun y1 hy1=>?_
 refine Ad (fun hv=>?_) fun hv=>?_
 subst hv
 rintro ⟨⟩
 exact D9 (Ag 300 [pb (Fk hi0),BT (BQ .lost he0),An (IW hy1),pi mi0]) (by kernel_rfl) (k [(jv j0 0),bT,bT,bF,(jv j0 4)])
 subst hv
 rintro ⟨⟩
 exact Ap _ _ (Ag 300 [pb (Fk hi0),BT (BQ .lost he0),An (IW hy1)]) (by kernel_rfl) (.Em k) .sc
 rintro ⟨⟩ jx_2
 refine Ad (fun hb1=>?_) fun hb1=>?_
 rintro ⟨⟩
 exact Ap _ _ (BJ 300 [pb hb1]) (by kernel_rfl) .body .sc
 rintro ⟨⟩
 exact Ap _ _ (BJ 300 [pb hb1]) (by kernel_rfl) .body .sc
noncomputable def aaP:Code:=AY Tryz.f109
theorem aff:Tryz.f109.body=some aaP:=by kernel_rfl
noncomputable def C5   (i0:Nat) (e0:Nd) (unless3:Int) (amount4:Int):Option (Lp (Int×Int) (Int×Int) Bool):=(Ee e0).bind fun y1=>cond y1 (cond (Bp e0.kind 6) (cond (Bp ((e0.kids.length:Nat):Int) 1) ((e0.kids[0]?).bind fun x2=>(HX x2).bind fun y3=>cond y3 (some (.nx (unless3,amount4))) (some (.rt false))) (some (.rt false))) (cond (Bp e0.kind 8) (cond (Bp ((e0.kids.length:Nat):Int) 1) ((e0.kids[0]?).bind fun x4=>(HX x4).bind fun y5=>cond y5 (some (.nx (unless3,(BW amount4 1)))) (some (.rt false))) (some (.rt false))) (cond (Bp e0.kind 7) ((GP e0.kids).bind fun y6=>cond y6 (some (.nx ((BW unless3 1),amount4))) (some (.rt false))) (some (.rt false))))) (some (.rt false))
noncomputable def Dl  (l:(List Nd)):Option Bool:=(GW l.length (AL (fun i y x=>C5   i y x.1 x.2) (fun x=>(x.1,x.2)) (l.drop 0) 0 (0,0))).bind (GQ (fun ((unless3_7,amount4_7):(Int×Int))=>cond (Kt unless3_7 1) (cond (Bp amount4_7 1) (some true) (some false)) (some false)) (fun v=>some v))
theorem Gz   {l:(List Nd)} {yR:Bool} (h:Dl  l=some yR):Pure P G 109 [.sl .lost l.length (Cg l)] (.zb yR):=by
 unfold Dl at h
 refine BF Hd.mixed Hd.Aa (Ay Tryz.func109 aff ?_) (AW (Am.Bk l) rfl) rfl
 revert h
 refine DF (fun Q v=>EQ P Tryz.f109 0 Q (.zb v)) (fun i0 ((unless3,amount4):(Int×Int)) (j0:List Value)=>fr 69 [(0,.sl .lost l.length (Cg l)),(3,.zi unless3),(4,.zi amount4),(5,.zi ((i0:Nat):Int))] [2,9,16,17,23,24,25,32,33,41,42,43,49,52,53,61,62,64,65,67,68] j0) (fun ((unless3,amount4):(Int×Int))=>⟨[],0,[],0⟩) (fun ((unless3,amount4):(Int×Int)) (jx:List Value)=>fr 69 [(3,.zi unless3),(4,.zi amount4)] [2,9,16,17,23,24,25,32,33,41,42,43,49,52,53,61,62,64,65,67,68] jx) (fun ((unless3,amount4):(Int×Int))=>⟨[],0,[],0⟩) [bF] (Dq [] 0 (sb aaP 244) [.code (sb aaP 31)] (Ag 300 []) (by kernel_rfl)) ?_ ?_ ?_ (fun v h=>by cases h;exact .outer .body)
 rintro i0 ⟨unless3,amount4⟩ j0 hge hq
 exact B1 (Ag 300 [pb (IJ hge)]) (by kernel_rfl) (hq (js 21 j0 [(1,bF)]))
 rintro i0 e0 ⟨unless3,amount4⟩ j0 r he0 hi0 mi0 k
 show C5   i0 e0 unless3 amount4=some r→_
 unfold C5
 refine Ah fun y1 hy1=>?_
 let o1:LP:=[pb (Fk hi0),BT (BQ .lost he0),An (H5 hy1)]
 refine Ad (fun hv=>?_) fun hv=>?_
 subst hv
 let o2:LP:=o1++[BT (BQ .lost he0)]
 refine Ad (fun hb1=>?_) fun hb1=>?_
 refine Ad (fun hb2=>?_) fun hb2=>?_
 refine Ah fun x2 hx2=>?_
 refine Ah fun y3 hy3=>?_
 let o3:LP:=o2++[pb hb1,BT (BQ .lost he0),pn hb2,BT (BQ .lost he0),BT (BQ .lost hx2),An (LK hy3)]
 refine Ad (fun hv=>?_) fun hv=>?_
 subst hv
 rintro ⟨⟩
 exact D9 (Ag 300 (o3++[BT (BQ .lost he0),pb (B:=Bp e0.kind 8) (b:=false) (by rw [H2 hb1];rfl),pi mi0])) (by kernel_rfl) (k (js 21 j0 [(1,bT),(2,bT),(3,bF),(4,bT),(5,bT),(7,bF),(8,bF),(9,bT),(10,bF),(11,bF),(12,bF)]))
 subst hv
 rintro ⟨⟩
 exact Ap _ _ (Ag 300 o3) (by kernel_rfl) (.Em k) .sc
 rintro ⟨⟩
 exact Ap _ _ (Ag 300 (o2++[pb hb1,BT (BQ .lost he0),pn hb2])) (by kernel_rfl) (.Em k) .sc
 refine Ad (fun hb3=>?_) fun hb3=>?_
 refine Ad (fun hb4=>?_) fun hb4=>?_
 refine Ah fun x4 hx4=>?_
 refine Ah fun y5 hy5=>?_
 let o4:LP:=o2++[pb hb1,pb hb3,BT (BQ .lost he0),pn hb4,BT (BQ .lost he0),BT (BQ .lost hx4),An (LK hy5)]
 refine Ad (fun hv=>?_) fun hv=>?_
 subst hv
 rintro ⟨⟩
 exact D9 (Ag 300 (o4++[BT (BQ .lost he0),pb hb3,pk,pi mi0])) (by kernel_rfl) (k (js 21 j0 [(1,bT),(2,bT),(3,bF),(4,bT),(5,bF),(6,bT),(7,bF),(8,bF),(9,bT),(10,bF),(11,bF),(12,bT)]))
 subst hv
 rintro ⟨⟩
 exact Ap _ _ (Ag 300 o4) (by kernel_rfl) (.Em k) .sc
 rintro ⟨⟩
 exact Ap _ _ (Ag 300 (o2++[pb hb1,pb hb3,BT (BQ .lost he0),pn hb4])) (by kernel_rfl) (.Em k) .sc
 refine Ad (fun hb5=>?_) fun hb5=>?_
 refine Ah fun y6 hy6=>?_
 let o5:LP:=o2++[pb hb1,pb hb3,pb hb5,pk,BT (BQ .lost he0),An (Pj hy6)]
 refine Ad (fun hv=>?_) fun hv=>?_
 subst hv
 rintro ⟨⟩
 exact D9 (Ag 300 (o5++[pi mi0])) (by kernel_rfl) (k (js 21 j0 [(1,bT),(2,bT),(3,bF),(4,bF),(5,bF),(6,bF),(13,bT),(14,bT),(15,bT),(16,bF)]))
 subst hv
 rintro ⟨⟩
 exact Ap _ _ (Ag 300 o5) (by kernel_rfl) (.Em k) .sc
 rintro ⟨⟩
 exact Ap _ _ (Ag 300 (o2++[pb hb1,pb hb3,pb hb5])) (by kernel_rfl) (.Em k) .sc
 subst hv
 rintro ⟨⟩
 exact Ap _ _ (Ag 300 o1) (by kernel_rfl) (.Em k) .sc
 rintro ⟨unless3_7,amount4_7⟩ jx_7
 dsimp only
 refine Ad (fun hb6=>?_) fun hb6=>?_
 refine Ad (fun hb7=>?_) fun hb7=>?_
 rintro ⟨⟩
 exact Ap _ _ (BJ 300 [pb hb6,pb hb7]) (by kernel_rfl) .body .sc
 rintro ⟨⟩
 exact Ap _ _ (BJ 300 [pb hb6,pb hb7]) (by kernel_rfl) .body .sc
 rintro ⟨⟩
 exact Ap _ _ (BJ 300 [pb hb6]) (by kernel_rfl) .body .sc
noncomputable def B65:Code:=AY Tryz.f65
theorem b65:Tryz.f65.body=some B65:=by kernel_rfl
noncomputable def Jq  (n:Nd):Option Bool:=(HV n.name).bind fun y1=>cond y1 ((Hr n.unit).bind fun y2=>cond y2 (cond (Bp n.kind 2) ((DZ n).bind fun y3=>cond y3 (some true) (some false)) (cond (Bp n.kind 3) ((DY n).bind fun y4=>cond y4 ((Bj n.n 1 4).bind fun y5=>some y5) (some false)) (cond (Bp n.kind 4) ((Dr n).bind fun y6=>cond y6 ((Bj n.n 1 1000000).bind fun y7=>cond y7 ((some (DH 1 ((n.kids.length:Nat):Int))).bind fun q8=>cond q8 ((n.kids[0]?).bind fun x9=>(E4 x9).bind fun y10=>cond y10 ((Jv n.kids 1 ((n.kids.length:Nat):Int)).bind fun l11=>(Dl l11).bind fun y12=>some y12) (some false)) (some false)) (some false)) (some false)) (some false)))) ((some (BC n.unit.data.toList Ak.data.toList)).bind fun q13=>cond q13 (cond (Bp n.kind 2) ((DZ n).bind fun y14=>cond y14 (some true) (some false)) (cond (Bp n.kind 3) ((DY n).bind fun y15=>cond y15 ((Bj n.n 1 4).bind fun y16=>some y16) (some false)) (cond (Bp n.kind 4) ((Dr n).bind fun y17=>cond y17 ((Bj n.n 1 1000000).bind fun y18=>cond y18 ((some (DH 1 ((n.kids.length:Nat):Int))).bind fun q19=>cond q19 ((n.kids[0]?).bind fun x20=>(E4 x20).bind fun y21=>cond y21 ((Jv n.kids 1 ((n.kids.length:Nat):Int)).bind fun l22=>(Dl l22).bind fun y23=>some y23) (some false)) (some false)) (some false)) (some false)) (some false)))) ((some (BC n.unit.data.toList AF.data.toList)).bind fun q24=>cond q24 (cond (Bp n.kind 2) ((DZ n).bind fun y25=>cond y25 (some true) (some false)) (cond (Bp n.kind 3) ((DY n).bind fun y26=>cond y26 ((Bj n.n 1 4).bind fun y27=>some y27) (some false)) (cond (Bp n.kind 4) ((Dr n).bind fun y28=>cond y28 ((Bj n.n 1 1000000).bind fun y29=>cond y29 ((some (DH 1 ((n.kids.length:Nat):Int))).bind fun q30=>cond q30 ((n.kids[0]?).bind fun x31=>(E4 x31).bind fun y32=>cond y32 ((Jv n.kids 1 ((n.kids.length:Nat):Int)).bind fun l33=>(Dl l33).bind fun y34=>some y34) (some false)) (some false)) (some false)) (some false)) (some false)))) ((some (BC n.unit.data.toList BM.data.toList)).bind fun q35=>cond (Bp n.kind 2) ((DZ n).bind fun y36=>cond y36 (some q35) (some false)) (cond (Bp n.kind 3) ((DY n).bind fun y37=>cond y37 (cond q35 ((Bj n.n 1 4).bind fun y38=>some y38) (some false)) (some false)) (cond (Bp n.kind 4) ((Dr n).bind fun y39=>cond y39 ((Bj n.n 1 1000000).bind fun y40=>cond y40 ((some (DH 1 ((n.kids.length:Nat):Int))).bind fun q41=>cond q41 ((n.kids[0]?).bind fun x42=>(E4 x42).bind fun y43=>cond y43 ((Jv n.kids 1 ((n.kids.length:Nat):Int)).bind fun l44=>(Dl l44).bind fun y45=>some y45) (some false)) (some false)) (some false)) (some false)) (some false))))))) (some false)
theorem Nb   {n:Nd} {yR:Bool} (h:Jq  n=some yR):Pure P G 65 [.agg (Bo n)] (.zb yR):=by
 unfold Jq at h
 refine BF Hd.mixed Hd.Aa (Ay Tryz.func65 b65 ?_) (AW (Am.Dp n) rfl) rfl
 revert h
 refine Ah fun y1 hy1=>?_
 let o1:LP:=[An (M9 hy1)]
 refine Ad (fun hv=>?_) fun hv=>?_
 subst hv
 refine Ah fun y2 hy2=>?_
 let o2:LP:=o1++[An (I6 hy2)]
 refine Ad (fun hv=>?_) fun hv=>?_
 subst hv
 refine Ad (fun hb1=>?_) fun hb1=>?_
 refine Ah fun y3 hy3=>?_
 refine Ad (fun hv=>?_) fun hv=>?_
 subst hv
 rintro ⟨⟩
 exact rT (o2++[pb hb1,An (C0 hy3)])
 subst hv
 rintro ⟨⟩
 exact rT (o2++[pb hb1,An (C0 hy3)])
 refine Ad (fun hb2=>?_) fun hb2=>?_
 refine Ah fun y4 hy4=>?_
 refine Ad (fun hv=>?_) fun hv=>?_
 subst hv
 refine Ah fun y5 hy5=>?_
 rintro ⟨⟩
 exact rT (o2++[pb hb1,pb hb2,An (Dm hy4),An (AM hy5)])
 subst hv
 rintro ⟨⟩
 exact rT (o2++[pb hb1,pb hb2,An (Dm hy4)])
 let o3:LP:=o2++[pb hb1,pb hb2]
 refine Ad (fun hb3=>?_) fun hb3=>?_
 refine Ah fun y6 hy6=>?_
 let o4:LP:=o3++[pb hb3,An (Gd hy6)]
 refine Ad (fun hv=>?_) fun hv=>?_
 subst hv
 refine Ah fun y7 hy7=>?_
 let o5:LP:=o4++[An (AM hy7)]
 refine Ad (fun hv=>?_) fun hv=>?_
 subst hv
 refine Ah fun q8 hq8=>?_
 let o6:LP:=o5++[CD (Uz hq8 (.tmp 59) (.const (.int .i64 1)))]
 refine Ad (fun hv=>?_) fun hv=>?_
 subst hv
 refine Ah fun x9 hx9=>?_
 refine Ah fun y10 hy10=>?_
 refine Ad (fun hv=>?_) fun hv=>?_
 subst hv
 refine Ah fun l11 hl11=>?_
 refine Ah fun y12 hy12=>?_
 rintro ⟨⟩
 exact rT (o6++[BT (BQ .lost hx9),An (D0 hy10),PA (Ir hl11),An (Gz hy12)])
 subst hv
 rintro ⟨⟩
 exact rT (o6++[BT (BQ .lost hx9),An (D0 hy10)])
 subst hv
 rintro ⟨⟩
 exact rT o6
 subst hv
 rintro ⟨⟩
 exact rT o5
 subst hv
 rintro ⟨⟩
 exact rT o4
 rintro ⟨⟩
 exact rT (o3++[pb hb3])
 subst hv
 refine Ah fun q13 hq13=>?_
 let o7:LP:=o2++[CD (DW hq13 (.tmp 13) (.const (.string Ak)))]
 refine Ad (fun hv=>?_) fun hv=>?_
 subst hv
 refine Ad (fun hb4=>?_) fun hb4=>?_
 refine Ah fun y14 hy14=>?_
 refine Ad (fun hv=>?_) fun hv=>?_
 subst hv
 rintro ⟨⟩
 exact rT (o7++[pb hb4,An (C0 hy14)])
 subst hv
 rintro ⟨⟩
 exact rT (o7++[pb hb4,An (C0 hy14)])
 refine Ad (fun hb5=>?_) fun hb5=>?_
 refine Ah fun y15 hy15=>?_
 refine Ad (fun hv=>?_) fun hv=>?_
 subst hv
 refine Ah fun y16 hy16=>?_
 rintro ⟨⟩
 exact rT (o7++[pb hb4,pb hb5,An (Dm hy15),An (AM hy16)])
 subst hv
 rintro ⟨⟩
 exact rT (o7++[pb hb4,pb hb5,An (Dm hy15)])
 let o8:LP:=o7++[pb hb4,pb hb5]
 refine Ad (fun hb6=>?_) fun hb6=>?_
 refine Ah fun y17 hy17=>?_
 let o9:LP:=o8++[pb hb6,An (Gd hy17)]
 refine Ad (fun hv=>?_) fun hv=>?_
 subst hv
 refine Ah fun y18 hy18=>?_
 let o10:LP:=o9++[An (AM hy18)]
 refine Ad (fun hv=>?_) fun hv=>?_
 subst hv
 refine Ah fun q19 hq19=>?_
 let o11:LP:=o10++[CD (Uz hq19 (.tmp 59) (.const (.int .i64 1)))]
 refine Ad (fun hv=>?_) fun hv=>?_
 subst hv
 refine Ah fun x20 hx20=>?_
 refine Ah fun y21 hy21=>?_
 refine Ad (fun hv=>?_) fun hv=>?_
 subst hv
 refine Ah fun l22 hl22=>?_
 refine Ah fun y23 hy23=>?_
 rintro ⟨⟩
 exact rT (o11++[BT (BQ .lost hx20),An (D0 hy21),PA (Ir hl22),An (Gz hy23)])
 subst hv
 rintro ⟨⟩
 exact rT (o11++[BT (BQ .lost hx20),An (D0 hy21)])
 subst hv
 rintro ⟨⟩
 exact rT o11
 subst hv
 rintro ⟨⟩
 exact rT o10
 subst hv
 rintro ⟨⟩
 exact rT o9
 rintro ⟨⟩
 exact rT (o8++[pb hb6])
 subst hv
 refine Ah fun q24 hq24=>?_
 let o12:LP:=o7++[CD (DW hq24 (.tmp 18) (.const (.string AF)))]
 refine Ad (fun hv=>?_) fun hv=>?_
 subst hv
 refine Ad (fun hb7=>?_) fun hb7=>?_
 refine Ah fun y25 hy25=>?_
 refine Ad (fun hv=>?_) fun hv=>?_
 subst hv
 rintro ⟨⟩
 exact rT (o12++[pb hb7,An (C0 hy25)])
 subst hv
 rintro ⟨⟩
 exact rT (o12++[pb hb7,An (C0 hy25)])
 refine Ad (fun hb8=>?_) fun hb8=>?_
 refine Ah fun y26 hy26=>?_
 refine Ad (fun hv=>?_) fun hv=>?_
 subst hv
 refine Ah fun y27 hy27=>?_
 rintro ⟨⟩
 exact rT (o12++[pb hb7,pb hb8,An (Dm hy26),An (AM hy27)])
 subst hv
 rintro ⟨⟩
 exact rT (o12++[pb hb7,pb hb8,An (Dm hy26)])
 let o13:LP:=o12++[pb hb7,pb hb8]
 refine Ad (fun hb9=>?_) fun hb9=>?_
 refine Ah fun y28 hy28=>?_
 let o14:LP:=o13++[pb hb9,An (Gd hy28)]
 refine Ad (fun hv=>?_) fun hv=>?_
 subst hv
 refine Ah fun y29 hy29=>?_
 let o15:LP:=o14++[An (AM hy29)]
 refine Ad (fun hv=>?_) fun hv=>?_
 subst hv
 refine Ah fun q30 hq30=>?_
 let o16:LP:=o15++[CD (Uz hq30 (.tmp 59) (.const (.int .i64 1)))]
 refine Ad (fun hv=>?_) fun hv=>?_
 subst hv
 refine Ah fun x31 hx31=>?_
 refine Ah fun y32 hy32=>?_
 refine Ad (fun hv=>?_) fun hv=>?_
 subst hv
 refine Ah fun l33 hl33=>?_
 refine Ah fun y34 hy34=>?_
 rintro ⟨⟩
 exact rT (o16++[BT (BQ .lost hx31),An (D0 hy32),PA (Ir hl33),An (Gz hy34)])
 subst hv
 rintro ⟨⟩
 exact rT (o16++[BT (BQ .lost hx31),An (D0 hy32)])
 subst hv
 rintro ⟨⟩
 exact rT o16
 subst hv
 rintro ⟨⟩
 exact rT o15
 subst hv
 rintro ⟨⟩
 exact rT o14
 rintro ⟨⟩
 exact rT (o13++[pb hb9])
 subst hv
 refine Ah fun q35 hq35=>?_
 let o17:LP:=o12++[CD (DW hq35 (.tmp 23) (.const (.string BM)))]
 refine Ad (fun hb10=>?_) fun hb10=>?_
 refine Ah fun y36 hy36=>?_
 refine Ad (fun hv=>?_) fun hv=>?_
 subst hv
 rintro ⟨⟩
 exact rT (o17++[pb hb10,An (C0 hy36)])
 subst hv
 rintro ⟨⟩
 exact rT (o17++[pb hb10,An (C0 hy36)])
 refine Ad (fun hb11=>?_) fun hb11=>?_
 refine Ah fun y37 hy37=>?_
 let o18:LP:=o17++[pb hb10,pb hb11,An (Dm hy37)]
 refine Ad (fun hv=>?_) fun hv=>?_
 subst hv
 refine Ad (fun hv=>?_) fun hv=>?_
 subst hv
 refine Ah fun y38 hy38=>?_
 rintro ⟨⟩
 exact rT (o18++[An (AM hy38)])
 subst hv
 rintro ⟨⟩
 exact rT o18
 subst hv
 rintro ⟨⟩
 exact rT o18
 let o19:LP:=o17++[pb hb10,pb hb11]
 refine Ad (fun hb12=>?_) fun hb12=>?_
 refine Ah fun y39 hy39=>?_
 let o20:LP:=o19++[pb hb12,An (Gd hy39)]
 refine Ad (fun hv=>?_) fun hv=>?_
 subst hv
 refine Ah fun y40 hy40=>?_
 let o21:LP:=o20++[An (AM hy40)]
 refine Ad (fun hv=>?_) fun hv=>?_
 subst hv
 refine Ah fun q41 hq41=>?_
 let o22:LP:=o21++[CD (Uz hq41 (.tmp 59) (.const (.int .i64 1)))]
 refine Ad (fun hv=>?_) fun hv=>?_
 subst hv
 refine Ah fun x42 hx42=>?_
 refine Ah fun y43 hy43=>?_
 refine Ad (fun hv=>?_) fun hv=>?_
 subst hv
 refine Ah fun l44 hl44=>?_
 refine Ah fun y45 hy45=>?_
 rintro ⟨⟩
 exact rT (o22++[BT (BQ .lost hx42),An (D0 hy43),PA (Ir hl44),An (Gz hy45)])
 subst hv
 rintro ⟨⟩
 exact rT (o22++[BT (BQ .lost hx42),An (D0 hy43)])
 subst hv
 rintro ⟨⟩
 exact rT o22
 subst hv
 rintro ⟨⟩
 exact rT o21
 subst hv
 rintro ⟨⟩
 exact rT o20
 rintro ⟨⟩
 exact rT (o19++[pb hb12])
 subst hv
 rintro ⟨⟩
 exact rT o1
noncomputable def B29:Code:=AY Tryz.f29
theorem b29:Tryz.f29.body=some B29:=by kernel_rfl
noncomputable def I7   (i0:Nat) (e0:Nd) :Option (Lp Unit Unit Bool):=(Jq e0).bind fun y3=>cond y3 (some (.nx ())) (some (.rt false))
noncomputable def GX  (n:Nd):Option Bool:=(IV n).bind fun y1=>cond y1 (cond (Bp n.kind 1) ((GW n.kids.length (AL (fun i y x=>I7   i y ) (fun x=>()) (n.kids.drop 0) 0 ())).bind (GQ (fun (_:Unit)=>(Ee n).bind fun y5=>some y5) (fun v=>some v))) ((HX n).bind fun y2=>some y2)) (some false)
theorem Mg   {n:Nd} {yR:Bool} (h:GX  n=some yR):Pure P G 29 [.agg (Bo n)] (.zb yR):=by
 unfold GX at h
 refine BF Hd.mixed Hd.Aa (Ay Tryz.func29 b29 ?_) (AW (Am.Dp n) rfl) rfl
 revert h
 refine Ah fun y1 hy1=>?_
 refine Ad (fun hv=>?_) fun hv=>?_
 subst hv
 refine Ad (fun hb1=>?_) fun hb1=>?_
 refine DF (fun Q v=>EQ P Tryz.f29 0 Q (.zb v)) (fun i0 (_:Unit) (j0:List Value)=>fr 28 [(1,.ptr 0 0),(3,.zi ((i0:Nat):Int))] [2,5,6,9,11,16,24,25,27] j0) (fun (_:Unit)=>⟨[(0,.cells (Bo n))],1,[],0⟩) (fun (_:Unit) (jx:List Value)=>fr 28 [(1,.ptr 0 0)] [2,5,6,9,11,16,24,25,27] jx) (fun (_:Unit)=>⟨[(0,.cells (Bo n))],1,[],0⟩) [bF,bT,bF,bF] (Dq [] 0 (sb B29 244) [.code (sb B29 31)] (Ag 300 [An (Kh hy1),pn hb1]) (by kernel_rfl)) ?_ ?_ ?_ (fun v h=>by cases h;exact .outer .body)
 rintro i0 ⟨⟩ j0 hge hq
 exact B1 (Ag 300 [pb (IJ hge)]) (by kernel_rfl) (hq (js 9 j0 [(5,bF)]))
 rintro i0 e0 ⟨⟩ j0 r he0 hi0 mi0 k
 show I7   i0 e0 =some r→_
 unfold I7
 refine Ah fun y3 hy3=>?_
 refine Ad (fun hv=>?_) fun hv=>?_
 subst hv
 rintro ⟨⟩
 exact D9 (Ag 300 [pb (Fk hi0),BT (BQ .lost he0),An (Nb hy3),pi mi0]) (by kernel_rfl) (k (js 9 j0 [(5,bT),(6,bT),(7,bF)]))
 subst hv
 rintro ⟨⟩
 exact Ap _ _ (Ag 300 [pb (Fk hi0),BT (BQ .lost he0),An (Nb hy3)]) (by kernel_rfl) (.Em k) .sc
 rintro ⟨⟩ jx_4
 refine Ah fun y5 hy5=>?_
 rintro ⟨⟩
 exact Ap _ _ (BJ 300 [An (H5 hy5)]) (by kernel_rfl) .body .sc
 refine Ah fun y2 hy2=>?_
 rintro ⟨⟩
 exact rT [An (Kh hy1),pn hb1,An (LK hy2)]
 subst hv
 rintro ⟨⟩
 exact rT [An (Kh hy1)]
noncomputable def B30:Code:=AY Tryz.f30
theorem b30:Tryz.f30.body=some B30:=by kernel_rfl
noncomputable def IY (F7:Nd→Option Nd)  (i0:Nat) (e0:Nd) (w2_9:(List Nd)):Option (Lp (List Nd) (List Nd) Nd):=(F7 e0).bind fun y2=>Lt (w2_9.length+1) (some (.nx (w2_9++[y2])))
noncomputable def JO (F7:Nd→Option Nd) (n:Nd):Option Nd:=(GW n.kids.length (AL (fun i y x=>IY F7  i y x) (fun x=>x) (n.kids.drop 0) 0 [])).bind (GQ (fun (w2_9_4:(List Nd))=>some (⟨n.kind,n.name,n.unit,n.n,n.fr,n.to,n.known,n.tab,w2_9_4,0⟩:Nd)) (fun v=>some v))
theorem QT (F7:Nd→Option Nd) (Tx:∀ {n:Nd} {yR:Nd},F7 n=some yR→Pure P G 30 [.agg (Bo n)] (.agg (Bo yR))) {n:Nd} {yR:Nd} (h:JO F7 n=some yR):Pure P G 30 [.agg (Bo n)] (.agg (Bo yR)):=by
 unfold JO at h
 refine BF Hd.mixed Hd.Aa (Ay Tryz.func30 b30 ?_) (AW (Am.Dp n) rfl) (Am.Dp yR)
 revert h
 refine DF (fun Q v=>EQ P Tryz.f30 0 Q (.agg (Bo v))) (fun i0 (w2_9:(List Nd)) (j0:List Value)=>fr 27 [(1,.ptr 0 0),(2,.ptr 1 0),(3,.ptr 2 0),(4,.zi ((i0:Nat):Int))] [12] j0) (fun (w2_9:(List Nd))=>⟨[(2,.cells [.zi n.kind,.zs n.name,.zs n.unit,.zi n.n,.zi n.fr,.zi n.to,.zi n.known,.zi n.tab.den,.sl .lost n.tab.ps.length (rows GY n.tab.ps),.sl (.row 0 11) w2_9.length (Cg w2_9),.zi 0]),(1,.cells [.zi 0,.zs ByteArray.empty,.zs ByteArray.empty,.zi 0,.zi 0,.zi 0,.zi 0,.zi 0,.sl .full 0 [],.sl .full 0 [],.zi 0]),(0,.cells (Bo n))],3,[(0,w2_9.length)],1⟩) (fun (w2_9:(List Nd)) (jx:List Value)=>fr 27 [(2,.ptr 1 0),(3,.ptr 2 0)] [12] jx) (fun (w2_9:(List Nd))=>⟨[(2,.cells [.zi n.kind,.zs n.name,.zs n.unit,.zi n.n,.zi n.fr,.zi n.to,.zi n.known,.zi n.tab.den,.sl .lost n.tab.ps.length (rows GY n.tab.ps),.sl (.row 0 11) w2_9.length (Cg w2_9),.zi 0]),(1,.cells [.zi 0,.zs ByteArray.empty,.zs ByteArray.empty,.zi 0,.zi 0,.zi 0,.zi 0,.zi 0,.sl .full 0 [],.sl .full 0 [],.zi 0]),(0,.cells (Bo n))],3,[(0,w2_9.length)],1⟩) [] (Dq [.b 2 9 11] 0 (sb B30 500) [.code (sb B30 63)] (Ag 300 []) (by kernel_rfl)) ?_ ?_ ?_ (fun v h=>by cases h;exact .outer .body)
 rintro i0 w2_9 j0 hge hq
 exact B1 (Ag 300 [pb (IJ hge)]) (by kernel_rfl) (hq [bF])
 rintro i0 e0 w2_9 j0 r he0 hi0 mi0 k
 show IY F7  i0 e0 w2_9=some r→_
 unfold IY
 refine Ah fun y2 hy2=>?_
 refine Kz fun hl3=>?_
 rintro ⟨⟩
 exact D9 (Ag 300 [pb (Fk hi0),pza,BT (BQ .lost he0),An (Tx hy2),Nk (acd (.row 0 11) w2_9 [y2] (o:=.full) (n:=1) (ns:=(Bo y2)) (Am.wn [y2] (.r (.r (.r (.r (.r (.r (.r (.r (.r (.r (.r .nil)))))))))))) rfl rfl (by simp) (by simpa using hl3)),pi mi0]) (by kernel_rfl) (k [bT])
 rintro w2_9_4 jx_4
 rintro ⟨⟩
 exact Ap (v:=.agg [.zi n.kind,.zs n.name,.zs n.unit,.zi n.n,.zi n.fr,.zi n.to,.zi n.known,.zi n.tab.den,.sl .lost n.tab.ps.length (rows GY n.tab.ps),.sl (.row 0 11) w2_9_4.length (Cg w2_9_4),.zi 0]) _ _ (BJ 300 []) (by kernel_rfl) .body (.wn (.g (.r (.r (.r (.r (.r (.r (.r (.r (.r (.s rfl (.r .nil))))))))))) .nil) (Am.Dp (⟨n.kind,n.name,n.unit,n.n,n.fr,n.to,n.known,n.tab,w2_9_4,0⟩:Nd)))
noncomputable def E9:Nat→Nd→Option Nd
 | 0,_=>none
 | qn+1,n=>JO (E9 qn) n
theorem RA:∀ qn:Nat,∀ {n:Nd} {yR:Nd},E9 qn n=some yR→Pure P G 30 [.agg (Bo n)] (.agg (Bo yR)):=by
 intro qn
 induction qn with
 | zero=>exact (fun h=>by simp only [E9] at h;cases h)
 | succ qn ih=>exact (fun h=>QT (E9 qn) ih (by rw [E9] at h;exact h))
noncomputable def LJ (n:Nd):Option Nd:=W5 (fun qn=>E9 qn n)
theorem SD {n:Nd} {yR:Nd} (h:LJ n=some yR):Pure P G 30 [.agg (Bo n)] (.agg (Bo yR)):=by
 obtain ⟨qn,h⟩:=Ru h
 exact (RA qn) h
noncomputable def B67:Code:=AY Tryz.f67
theorem b67:Tryz.f67.body=some B67:=by kernel_rfl
noncomputable def Hh  (n:Nd):Option Bool:=cond (Bp n.kind 1) ((GX n).bind fun y1=>some y1) (some false)
theorem Lx   {n:Nd} {yR:Bool} (h:Hh  n=some yR):Pure P G 67 [.agg (Bo n)] (.zb yR):=by
 unfold Hh at h
 refine BF Hd.mixed Hd.Aa (Ay Tryz.func67 b67 ?_) (AW (Am.Dp n) rfl) rfl
 revert h
 refine Ad (fun hb1=>?_) fun hb1=>?_
 refine Ah fun y1 hy1=>?_
 rintro ⟨⟩
 exact rT [pb hb1,An (Mg hy1)]
 rintro ⟨⟩
 exact rT [pb hb1]
noncomputable def adV:Code:=AY Tryz.f110
theorem adB:Tryz.f110.body=some adV:=by kernel_rfl
noncomputable def Bh  (c:Cq) (e:Int) (at_:Int):Option (Unit×(List Dg)):=cond (DH ((c.diags.length:Nat):Int) 20) (Lt (c.diags.length+1) (some ((),(c.diags++[(⟨e,at_⟩:Dg)])))) (some ((),c.diags))
theorem BB {c:Cq} {e:Int} {at_:Int} {qc_diagsR:(List Dg)} (hS:Sound P G (.call 110 [.ptr 0 0,.zi e,.zi at_] ⟨[(0,.cells (I9 0 c))],1,[(0,c.diags.length)],1⟩ (.ret (.Bd [])) ⟨[(0,.cells (Iy c.src [.sl (.row 0 2) qc_diagsR.length (rows BX qc_diagsR)]))],1,[(0,qc_diagsR.length)],1⟩)) (u0 v0:Nat) (hnb:([u0]:List Nat).Nodup:=by decide) (hnt:([v0]:List Nat).Nodup:=by decide):Cd.ok P G (.callU 110 [.ptr u0 0,.zi e,.zi at_] (.ret (.Bd [])) [(u0,.cells (I9 v0 c))] [(v0,c.diags.length)] [(u0,.cells (Iy c.src [.sl (.row v0 2) qc_diagsR.length (rows BX qc_diagsR)]))] [(v0,qc_diagsR.length)]) :=
 CS (M:=[.cells (I9 0 c)]) (M2:=[.cells (Iy c.src [.sl (.row 0 2) qc_diagsR.length (rows BX qc_diagsR)])]) (T:=[c.diags.length]) (T2:=[qc_diagsR.length]) (k:=1) (j:=1) Hd.Aa _ _ _ _ hS rfl rfl rfl rfl rfl hnb hnt rfl rfl (.cons (.cells (N1 c (by decide))) .nil) (.cons (.cells (.cons (.pl rfl) (.cons (.pl rfl) (.cons (.pl rfl) (.cons (.pl rfl) (.cons (.pl rfl) (.cons (.pl rfl) (.cons (.pl rfl) (.cons (.pl rfl) (.cons (.pl (Ch.Bk c.src.tab.ps)) (.cons (.pl (Am.Bk c.src.kids)) (.cons (.pl rfl) (.cons (.row (by decide) (AO.AW qc_diagsR)) .nil))))))))))))) .nil) (.cons (.ptr (by decide)) (.cons (.pl rfl) (.cons (.pl rfl) .nil))) (.pl rfl) (fun e he=>by simp only [List.mem_singleton] at he;subst he;exact (.arg (.here .ptr)))
theorem Br   {c:Cq} {e:Int} {at_:Int} {yR:Unit} {qc_diagsR:(List Dg)} (h:Bh  c e at_=some (yR,qc_diagsR)):Sound P G (.call 110 [.ptr 0 0,.zi e,.zi at_] ⟨[(0,.cells (I9 0 c))],1,[(0,c.diags.length)],1⟩ (.ret (.Bd [])) ⟨[(0,.cells (Iy c.src [.sl (.row 0 2) qc_diagsR.length (rows BX qc_diagsR)]))],1,[(0,qc_diagsR.length)],1⟩):=by
 unfold Bh at h
 refine CT Hd.mixed (Ay Tryz.func110 adB ?_)
 revert h
 refine Ad (fun hb1=>?_) fun hb1=>?_
 refine Kz fun hl1=>?_
 rintro ⟨⟩
 exact FL Hd.Aa _ _ [⟨.Bd [],.Bd [],(.plain rfl)⟩] [bu (Iy c.src [.sl (.row 0 2) ((c.diags++[(⟨e,at_⟩:Dg)]).length) (rows BX (c.diags++[(⟨e,at_⟩:Dg)]))]) (Av rfl (Av rfl (Av rfl (Av rfl (Av rfl (Av rfl (Av rfl (Av rfl (Av (Ae _ _ (Ch.Bk c.src.tab.ps)) (Av (Ae _ _ (Am.Bk c.src.kids)) (Av rfl (Av (CC rfl (Aj _ _ (AO.AW (c.diags++[(⟨e,at_⟩:Dg)])))) rfl))))))))))))] (Ag 300 [pb hb1,Nk (ZC (.row 0 2) c.diags [(⟨e,at_⟩:Dg)] (o:=.full) (n:=1) (ns:=[.zi e,.zi at_]) (AO.wn [(⟨e,at_⟩:Dg)] (.r (.r .nil))) rfl rfl (by simp) (by simpa using hl1))]) (by kernel_rfl)
 rintro ⟨⟩
 exact FL Hd.Aa _ _ [⟨.Bd [],.Bd [],(.plain rfl)⟩] [bu (I9 0 c) (H4 rfl)] (Ag 300 [pb hb1]) (by kernel_rfl)
noncomputable def aer:Code:=AY Tryz.f111
theorem ae0:Tryz.f111.body=some aer:=by kernel_rfl
noncomputable def Ed  (unit:ByteArray):Option Bool:=cond (BC unit.data.toList Ak.data.toList) (some false) (cond (BC unit.data.toList AF.data.toList) (some false) (cond (BC unit.data.toList BM.data.toList) (some false) (some true)))
theorem EU   {unit:ByteArray} {yR:Bool} (h:Ed  unit=some yR):Pure P G 111 [.zs unit] (.zb yR):=by
 unfold Ed at h
 refine BF Hd.mixed Hd.Aa (Ay Tryz.func111 ae0 ?_) (AW rfl rfl) rfl
 revert h
 refine Ad (fun hb1=>?_) fun hb1=>?_
 rintro ⟨⟩
 exact rT [pn hb1]
 refine Ad (fun hb2=>?_) fun hb2=>?_
 rintro ⟨⟩
 exact rT [pn hb1,pn hb2]
 refine Ad (fun hb3=>?_) fun hb3=>?_
 rintro ⟨⟩
 exact rT [pn hb1,pn hb2,pn hb3]
 rintro ⟨⟩
 exact rT [pn hb1,pn hb2,pn hb3]
noncomputable def B68:Code:=AY Tryz.f68
theorem b68:Tryz.f68.body=some B68:=by kernel_rfl
noncomputable def Dj  (c:Cq) (i:Int) (x1:Nd)  (k7:Int):Option (Lp Int Unit (Unit×(List Dg))):=cond (DH k7 i) ((CP c.src.kids k7).bind fun x2=>cond (Bp x2.kind x1.kind) (cond (BC x2.name.data.toList x1.name.data.toList) ((Bh c 5 x1.att).bind fun (y3a,y3b)=>some (.rt ((),y3b))) (some (.nx (BW k7 1)))) (some (.nx (BW k7 1)))) (some (.ex ()))
noncomputable def Cf  (c:Cq) (i:Int) (many:Int):Option (Unit×(List Dg)):=(CP c.src.kids i).bind fun x1=>(YH (fun x=>Dj  c i x1 x) 0).bind (GQ (fun (_:Unit)=>cond (Kt 32 many) ((Bh c 2 x1.att).bind fun (y5a,y5b)=>some ((),y5b)) (cond (Bp x1.kind 3) (cond (BC x1.unit.data.toList Ak.data.toList) ((Bh c 11 x1.att).bind fun (y6a,y6b)=>some ((),y6b)) (cond (Bp x1.n 4) (some ((),c.diags)) ((Ed x1.unit).bind fun y7=>cond y7 (some ((),c.diags)) ((Bh c 11 x1.att).bind fun (y8a,y8b)=>some ((),y8b))))) (some ((),c.diags)))) (fun v=>some v))
theorem G6 {c:Cq} {i:Int} {many:Int} {qc_diagsR:(List Dg)} (hS:Sound P G (.call 68 [.ptr 0 0,.zi i,.zi many] ⟨[(0,.cells (I9 0 c))],1,[(0,c.diags.length)],1⟩ (.ret (.Bd [])) ⟨[(0,.cells (Iy c.src [.sl (.row 0 2) qc_diagsR.length (rows BX qc_diagsR)]))],1,[(0,qc_diagsR.length)],1⟩)) (u0 v0:Nat) (hnb:([u0]:List Nat).Nodup:=by decide) (hnt:([v0]:List Nat).Nodup:=by decide):Cd.ok P G (.callU 68 [.ptr u0 0,.zi i,.zi many] (.ret (.Bd [])) [(u0,.cells (I9 v0 c))] [(v0,c.diags.length)] [(u0,.cells (Iy c.src [.sl (.row v0 2) qc_diagsR.length (rows BX qc_diagsR)]))] [(v0,qc_diagsR.length)]) :=
 CS (M:=[.cells (I9 0 c)]) (M2:=[.cells (Iy c.src [.sl (.row 0 2) qc_diagsR.length (rows BX qc_diagsR)])]) (T:=[c.diags.length]) (T2:=[qc_diagsR.length]) (k:=1) (j:=1) Hd.Aa _ _ _ _ hS rfl rfl rfl rfl rfl hnb hnt rfl rfl (.cons (.cells (N1 c (by decide))) .nil) (.cons (.cells (.cons (.pl rfl) (.cons (.pl rfl) (.cons (.pl rfl) (.cons (.pl rfl) (.cons (.pl rfl) (.cons (.pl rfl) (.cons (.pl rfl) (.cons (.pl rfl) (.cons (.pl (Ch.Bk c.src.tab.ps)) (.cons (.pl (Am.Bk c.src.kids)) (.cons (.pl rfl) (.cons (.row (by decide) (AO.AW qc_diagsR)) .nil))))))))))))) .nil) (.cons (.ptr (by decide)) (.cons (.pl rfl) (.cons (.pl rfl) .nil))) (.pl rfl) (fun e he=>by simp only [List.mem_singleton] at he;subst he;exact (.arg (.here .ptr)))
theorem Gq   {c:Cq} {i:Int} {many:Int} {yR:Unit} {qc_diagsR:(List Dg)} (h:Cf  c i many=some (yR,qc_diagsR)):Sound P G (.call 68 [.ptr 0 0,.zi i,.zi many] ⟨[(0,.cells (I9 0 c))],1,[(0,c.diags.length)],1⟩ (.ret (.Bd [])) ⟨[(0,.cells (Iy c.src [.sl (.row 0 2) qc_diagsR.length (rows BX qc_diagsR)]))],1,[(0,qc_diagsR.length)],1⟩):=by
 unfold Cf at h
 refine CT Hd.mixed (Ay Tryz.func68 b68 ?_)
 revert h
 refine Ah fun x1 hx1=>?_
 refine adH (fun Q v=>Iu P G Tryz.f68 1 ⟨[(0,.cells (I9 0 c))],1,[(0,c.diags.length)],1⟩ Q (.Bd []) ⟨[(0,.cells (Iy c.src [.sl (.row 0 2) v.2.length (rows BX v.2)]))],1,[(0,v.2.length)],1⟩) (fun (k7:Int) (j0:List Value)=>fr 80 [(0,.ptr 0 0),(1,.zi i),(2,.zi many),(6,.ptr 1 0),(7,.zi k7)] [18,32,33,45,46,52,59,60,63,64,67,68,71,72,73,74,75] j0) (fun (k7:Int)=>⟨[(1,.cells (Bo x1)),(0,.cells (I9 0 c))],2,[(0,c.diags.length)],1⟩) (fun (_:Unit) (jx:List Value)=>fr 80 [(0,.ptr 0 0),(2,.zi many),(6,.ptr 1 0)] [18,32,33,45,46,52,59,60,63,64,67,68,71,72,73,74,75] jx) (fun (_:Unit)=>⟨[(1,.cells (Bo x1)),(0,.cells (I9 0 c))],2,[(0,c.diags.length)],1⟩) [] (Dq [] 0 (sb B68 52) [.code (sb B68 7)] (Ag 300 [BT (Uv .lost hx1)]) (by kernel_rfl)) ?_ ?_ (fun v h=>by cases h;exact .outer .body)
 rintro k7 j0 r k
 show Dj  c i x1 k7=some r→_
 unfold Dj
 refine Ad (fun hb1=>?_) fun hb1=>?_
 refine Ah fun x2 hx2=>?_
 refine Ad (fun hb2=>?_) fun hb2=>?_
 refine Ad (fun hb3=>?_) fun hb3=>?_
 refine Ah ?_
 rintro ⟨y3a,y3b⟩ hy3
 dsimp only
 rintro ⟨⟩
 exact Ao Hd.Aa _ _ [⟨.Bd [],.Bd [],(.plain rfl)⟩] [bu (Iy c.src [.sl (.row 0 2) y3b.length (rows BX y3b)]) (Av rfl (Av rfl (Av rfl (Av rfl (Av rfl (Av rfl (Av rfl (Av rfl (Av (Ae _ _ (Ch.Bk c.src.tab.ps)) (Av (Ae _ _ (Am.Bk c.src.kids)) (Av rfl (Av (CC rfl (Aj _ _ (AO.AW y3b))) rfl))))))))))))] (Ag 300 [pb hb1,BT (Uv .lost hx2),pb hb2,BT (Uv .lost hx2),pb hb3,AG (BB (Br hy3) 0 0)]) (by kernel_rfl) (.Em k)
 rintro ⟨⟩
 exact D9 (Ag 300 [pb hb1,BT (Uv .lost hx2),pb hb2,BT (Uv .lost hx2),pb hb3,pk]) (by kernel_rfl) (k (js 17 j0 [(0,bT),(1,bT),(2,bT),(3,bF),(4,bF)]))
 rintro ⟨⟩
 exact D9 (Ag 300 [pb hb1,BT (Uv .lost hx2),pb hb2,pk]) (by kernel_rfl) (k (js 17 j0 [(0,bT),(1,bF),(2,bF),(3,undef),(4,bF)]))
 rintro ⟨⟩
 exact B1 (Ag 300 [pb hb1]) (by kernel_rfl) (k (js 17 j0 [(0,bF)]))
 rintro ⟨⟩ jx_4
 refine Ad (fun hb4=>?_) fun hb4=>?_
 refine Ah ?_
 rintro ⟨y5a,y5b⟩ hy5
 dsimp only
 refine Gv ?_
 rintro rfl rfl
 exact Ao Hd.Aa _ _ [⟨.Bd [],.Bd [],(.plain rfl)⟩] [bu (Iy c.src [.sl (.row 0 2) y5b.length (rows BX y5b)]) (Av rfl (Av rfl (Av rfl (Av rfl (Av rfl (Av rfl (Av rfl (Av rfl (Av (Ae _ _ (Ch.Bk c.src.tab.ps)) (Av (Ae _ _ (Am.Bk c.src.kids)) (Av rfl (Av (CC rfl (Aj _ _ (AO.AW y5b))) rfl))))))))))))] (BJ 300 [pb hb4,AG (BB (Br hy5) 0 0)]) (by kernel_rfl) .body
 refine Ad (fun hb5=>?_) fun hb5=>?_
 refine Ad (fun hb6=>?_) fun hb6=>?_
 refine Ah ?_
 rintro ⟨y6a,y6b⟩ hy6
 dsimp only
 refine Gv ?_
 rintro rfl rfl
 exact FL Hd.Aa _ _ [⟨.Bd [],.Bd [],(.plain rfl)⟩] [bu (Iy c.src [.sl (.row 0 2) y6b.length (rows BX y6b)]) (Av rfl (Av rfl (Av rfl (Av rfl (Av rfl (Av rfl (Av rfl (Av rfl (Av (Ae _ _ (Ch.Bk c.src.tab.ps)) (Av (Ae _ _ (Am.Bk c.src.kids)) (Av rfl (Av (CC rfl (Aj _ _ (AO.AW y6b))) rfl))))))))))))] (BJ 300 [pb hb4,pb hb5,pb hb6,AG (BB (Br hy6) 0 0)]) (by kernel_rfl)
 refine Ad (fun hb7=>?_) fun hb7=>?_
 refine Gv ?_
 rintro rfl rfl
 exact FL Hd.Aa _ _ [⟨.Bd [],.Bd [],(.plain rfl)⟩] [bu (I9 0 c) (H4 rfl)] (BJ 300 [pb hb4,pb hb5,pb hb6,pn hb7]) (by kernel_rfl)
 refine Ah fun y7 hy7=>?_
 refine Ad (fun hv=>?_) fun hv=>?_
 subst hv
 refine Gv ?_
 rintro rfl rfl
 exact FL Hd.Aa _ _ [⟨.Bd [],.Bd [],(.plain rfl)⟩] [bu (I9 0 c) (H4 rfl)] (BJ 300 [pb hb4,pb hb5,pb hb6,pn hb7,An (EU hy7)]) (by kernel_rfl)
 subst hv
 refine Ah ?_
 rintro ⟨y8a,y8b⟩ hy8
 dsimp only
 refine Gv ?_
 rintro rfl rfl
 exact FL Hd.Aa _ _ [⟨.Bd [],.Bd [],(.plain rfl)⟩] [bu (Iy c.src [.sl (.row 0 2) y8b.length (rows BX y8b)]) (Av rfl (Av rfl (Av rfl (Av rfl (Av rfl (Av rfl (Av rfl (Av rfl (Av (Ae _ _ (Ch.Bk c.src.tab.ps)) (Av (Ae _ _ (Am.Bk c.src.kids)) (Av rfl (Av (CC rfl (Aj _ _ (AO.AW y8b))) rfl))))))))))))] (BJ 300 [pb hb4,pb hb5,pb hb6,pn hb7,An (EU hy7),AG (BB (Br hy8) 0 0)]) (by kernel_rfl)
 refine Gv ?_
 rintro rfl rfl
 exact FL Hd.Aa _ _ [⟨.Bd [],.Bd [],(.plain rfl)⟩] [bu (I9 0 c) (H4 rfl)] (BJ 300 [pb hb4,pb hb5]) (by kernel_rfl)
noncomputable def zB:Code:=AY Tryz.f112
theorem adC:Tryz.f112.body=some zB:=by kernel_rfl
noncomputable def Gp  (kind:Int) (name:ByteArray) (i0:Nat) (e0:Nd) :Option (Lp Unit Unit (Nd×Bool)):=cond (Bp e0.kind kind) (cond (BC e0.name.data.toList name.data.toList) (some (.rt (e0,true))) (some (.nx ()))) (some (.nx ()))
noncomputable def Fa  (source:Nd) (kind:Int) (name:ByteArray):Option (Nd×Bool):=(GW source.kids.length (AL (fun i y x=>Gp  kind name i y ) (fun x=>()) (source.kids.drop 0) 0 ())).bind (GQ (fun (_:Unit)=>some ((⟨0,ByteArray.empty,ByteArray.empty,0,0,0,0,(⟨0,[]⟩:Fn),[],0⟩:Nd),false)) (fun v=>some v))
theorem HP   {source:Nd} {kind:Int} {name:ByteArray} {yR:(Nd×Bool)} (h:Fa  source kind name=some yR):Pure P G 112 [.agg (Bo source),.zi kind,.zs name] (.Bd [.agg (Bo yR.1),.zb yR.2]):=by
 unfold Fa at h
 refine BF Hd.mixed Hd.Aa (Ay Tryz.func112 adC ?_) (AW (Am.Dp source) (AW rfl (AW rfl rfl))) (AW (Am.Dp yR.1) (AW rfl rfl))
 revert h
 refine DF (fun Q v=>EQ P Tryz.f112 0 Q (.Bd [.agg (Bo v.1),.zb v.2])) (fun i0 (_:Unit) (j0:List Value)=>fr 34 [(1,.zi kind),(2,.zs name),(3,.ptr 0 0),(6,.ptr 1 0),(8,.zi ((i0:Nat):Int))] [7,14,25,26,30,31] j0) (fun (_:Unit)=>⟨[(1,.cells [.zi 0,.zs ByteArray.empty,.zs ByteArray.empty,.zi 0,.zi 0,.zi 0,.zi 0,.zi 0,.sl .full 0 [],.sl .full 0 [],.zi 0]),(0,.cells (Bo source))],2,[],0⟩) (fun (_:Unit) (jx:List Value)=>fr 34 [(6,.ptr 1 0)] [7,14,25,26,30,31] jx) (fun (_:Unit)=>⟨[(1,.cells [.zi 0,.zs ByteArray.empty,.zs ByteArray.empty,.zi 0,.zi 0,.zi 0,.zi 0,.zi 0,.sl .full 0 [],.sl .full 0 [],.zi 0]),(0,.cells (Bo source))],2,[],0⟩) [bF] (Dq [] 0 (sb zB 52) [.code (sb zB 7)] (Ag 300 []) (by kernel_rfl)) ?_ ?_ ?_ (fun v h=>by cases h;exact .outer .body)
 rintro i0 ⟨⟩ j0 hge hq
 exact B1 (Ag 300 [pb (IJ hge)]) (by kernel_rfl) (hq (js 6 j0 [(1,bF)]))
 rintro i0 e0 ⟨⟩ j0 r he0 hi0 mi0 k
 show Gp  kind name i0 e0 =some r→_
 unfold Gp
 refine Ad (fun hb1=>?_) fun hb1=>?_
 refine Ad (fun hb2=>?_) fun hb2=>?_
 rintro ⟨⟩
 exact Ap _ _ (Ag 300 [pb (Fk hi0),BT (BQ .lost he0),pb hb1,pb hb2]) (by kernel_rfl) (.Em k) (.plain (AW (Am.Dp e0) (AW rfl rfl)))
 rintro ⟨⟩
 exact Bt Hd.Aa [] [bw (.cells [.zi 0,.zs ByteArray.empty,.zs ByteArray.empty,.zi 0,.zi 0,.zi 0,.zi 0,.zi 0,.sl .full 0 [],.sl .full 0 [],.zi 0]) (.cells [.zi 0,.zs ByteArray.empty,.zs ByteArray.empty,.zi 0,.zi 0,.zi 0,.zi 0,.zi 0,.sl .full 0 [],.sl .full 0 [],.zi 0]) (.cells (.plain (AW rfl (AW rfl (AW rfl (AW rfl (AW rfl (AW rfl (AW rfl (AW rfl (AW (Gx rfl) (AW (Gx rfl) (AW rfl rfl))))))))))))),bp (Am.pl source)] (Ag 300 [pb (Fk hi0),BT (BQ .lost he0),pb hb1,pb hb2,pi mi0]) (by kernel_rfl) (k [(jv j0 0),bT,bT,bT,bF,bF])
 rintro ⟨⟩
 exact Bt Hd.Aa [] [bw (.cells [.zi 0,.zs ByteArray.empty,.zs ByteArray.empty,.zi 0,.zi 0,.zi 0,.zi 0,.zi 0,.sl .full 0 [],.sl .full 0 [],.zi 0]) (.cells [.zi 0,.zs ByteArray.empty,.zs ByteArray.empty,.zi 0,.zi 0,.zi 0,.zi 0,.zi 0,.sl .full 0 [],.sl .full 0 [],.zi 0]) (.cells (.plain (AW rfl (AW rfl (AW rfl (AW rfl (AW rfl (AW rfl (AW rfl (AW rfl (AW (Gx rfl) (AW (Gx rfl) (AW rfl rfl))))))))))))),bp (Am.pl source)] (Ag 300 [pb (Fk hi0),BT (BQ .lost he0),pb hb1,pi mi0]) (by kernel_rfl) (k [(jv j0 0),bT,bF,bF,undef,bF])
 rintro ⟨⟩ jx_1
 rintro ⟨⟩
 exact Ap (v:=.Bd [.agg [.zi 0,.zs ByteArray.empty,.zs ByteArray.empty,.zi 0,.zi 0,.zi 0,.zi 0,.zi 0,.sl .full 0 [],.sl .full 0 [],.zi 0],.zb false]) _ _ (BJ 300 []) (by kernel_rfl) .body (.wn (.u (.g (.r (.r (.r (.r (.r (.r (.r (.r (.z (.z (.r .nil))))))))))) (.r .nil)) .nil) (AW (Am.Dp (⟨0,ByteArray.empty,ByteArray.empty,0,0,0,0,(⟨0,[]⟩:Fn),[],0⟩:Nd)) (AW rfl rfl)))
end Mo
end Go.Proofs.YtnijkdknnmgoeaaGreat
