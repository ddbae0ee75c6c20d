/- Part of a proof: see the last text. -/
import Derived.Test.YtnijkdknnmgoeaaGreatAxm
set_option linter.unusedVariables false
set_option linter.unusedSimpArgs false
namespace Go.Proofs.YtnijkdknnmgoeaaGreat
open AI
set_option maxRecDepth 100000
set_option maxHeartbeats 4000000
def xX:AV:=.sl .full 2 [(.sc (.int .i64 (.ofNat 2))),(.sc (.int .i64 (.ofNat 0))),(Ad [110,117,109,98,101,114]),(.sc (.int .i64 (.ofNat 0))),(.sl .full 0 []),(.sl .full 0 []),(.sc (.int .i64 (.ofNat 1))),(.sc (.int .i64 (.ofNat 3))),(Ad [110,117,109,98,101,114]),(.sc (.int .i64 (.ofNat 0))),(.sl .full 0 []),(.sl .full 0 [])]
def lU:BC:=⟨16,[(.agg [(.sl .lost 1 [(Ad [97]),(Ad [110,117,109,98,101,114]),(.sc (.int .i64 (.ofNat 0)))]),(.sl .lost 1 [(Ad [108]),(Ad [69,85,82]),(.sc (.int .i64 (.ofNat 1)))]),Ou]),(.sc (.int .i64 (.ofNat 3))),(.sc (.int .i64 (.ofNat 8766))),(.sc (.int .i64 (.ofNat 8796)))],none,(.Bh [(.sc (.int .i64 (.ofNat 0))),(.sc (.bool false))])⟩
theorem ZX:At Tryz.prog Hd.G lU:=Hd.entry (l:=[]) (m:=1000000) Hd.none (by kernel_rfl) (by kernel_rfl)
def m7:BC:=⟨16,[(.agg [(.sl .lost 1 [(Ad [97]),(Ad [110,117,109,98,101,114]),(.sc (.int .i64 (.ofNat 0)))]),(.sl .lost 1 [(Ad [108]),(Ad [69,85,82]),(.sc (.int .i64 (.ofNat 1)))]),Ou]),(.sc (.int .i64 (.ofNat 2))),(.sc (.int .i64 (.ofNat 9132))),(.sc (.int .i64 (.ofNat 9999)))],none,(.Bh [(.sc (.int .i64 (.ofNat 0))),(.sc (.bool false))])⟩
theorem Yt:At Tryz.prog Hd.G m7:=Hd.entry (l:=[]) (m:=1000000) Hd.none (by kernel_rfl) (by kernel_rfl)
def UB:BC:=⟨22,[(.agg [(.sl .lost 1 [(Ad [97]),(Ad [110,117,109,98,101,114]),(.sc (.int .i64 (.ofNat 0)))]),(.sl .lost 1 [(Ad [108]),(Ad [69,85,82]),(.sc (.int .i64 (.ofNat 1)))]),Ou])],none,(.sc (.bool true))⟩
theorem K3:At Tryz.prog Hd.G UB:=Hd.entry (l:=[]) (m:=1000000) Hd.none (by kernel_rfl) (by kernel_rfl)
def WZ:BC:=⟨24,[(.agg [(.sl .lost 1 [(Ad [97]),(Ad [110,117,109,98,101,114]),(.sc (.int .i64 (.ofNat 0)))]),(.sl .lost 1 [(Ad [108]),(Ad [69,85,82]),(.sc (.int .i64 (.ofNat 1)))]),Ou]),(.sc (.int .i64 (.ofNat 0))),(.sc (.int .i64 (.ofNat 0)))],none,(.sc (.bool false))⟩
theorem Mq:At Tryz.prog Hd.G WZ:=Hd.entry (l:=[]) (m:=1000000) Hd.none (by kernel_rfl) (by kernel_rfl)
def Wk:BC:=⟨24,[(.agg [(.sl .lost 1 [(Ad [97]),(Ad [110,117,109,98,101,114]),(.sc (.int .i64 (.ofNat 0)))]),(.sl .lost 1 [(Ad [108]),(Ad [69,85,82]),(.sc (.int .i64 (.ofNat 1)))]),Ou]),(.sc (.int .i64 (.ofNat 1))),(.sc (.int .i64 (.ofNat 0)))],none,(.sc (.bool true))⟩
theorem My:At Tryz.prog Hd.G Wk:=Hd.entry (l:=[]) (m:=1000000) Hd.none (by kernel_rfl) (by kernel_rfl)
def V9:BC:=⟨24,[(.agg [(.sl .lost 1 [(Ad [97]),(Ad [110,117,109,98,101,114]),(.sc (.int .i64 (.ofNat 0)))]),(.sl .lost 1 [(Ad [108]),(Ad [69,85,82]),(.sc (.int .i64 (.ofNat 1)))]),Ou]),(.sc (.int .i64 (.ofNat 2))),(.sc (.int .i64 (.ofNat 0)))],none,(.sc (.bool false))⟩
theorem Mt:At Tryz.prog Hd.G V9:=Hd.entry (l:=[]) (m:=1000000) Hd.none (by kernel_rfl) (by kernel_rfl)
def Xs:BC:=⟨51,[(.agg [(.sl .lost 1 [(Ad [97]),(Ad [110,117,109,98,101,114]),(.sc (.int .i64 (.ofNat 0)))]),(.sl .lost 1 [(Ad [108]),(Ad [69,85,82]),(.sc (.int .i64 (.ofNat 1)))]),Ou]),(.sc (.int .i64 (.ofNat 0)))],none,(.sl .lost 1 [(.sc (.int .i64 (.ofNat 1)))])⟩
theorem Mf:At Tryz.prog Hd.G Xs:=Hd.entry (l:=[WZ,Wk,V9]) (m:=1000000) (Ag.cons Mq (Ag.cons My (Ag.cons Mt Hd.none))) (by kernel_rfl) (by kernel_rfl)
def X4:BC:=⟨24,[(.agg [(.sl .lost 1 [(Ad [97]),(Ad [110,117,109,98,101,114]),(.sc (.int .i64 (.ofNat 0)))]),(.sl .lost 1 [(Ad [108]),(Ad [69,85,82]),(.sc (.int .i64 (.ofNat 1)))]),Ou]),(.sc (.int .i64 (.ofNat 0))),(.sc (.int .i64 (.ofNat 1)))],none,(.sc (.bool false))⟩
theorem PD:At Tryz.prog Hd.G X4:=Hd.entry (l:=[]) (m:=1000000) Hd.none (by kernel_rfl) (by kernel_rfl)
def YR:BC:=⟨24,[(.agg [(.sl .lost 1 [(Ad [97]),(Ad [110,117,109,98,101,114]),(.sc (.int .i64 (.ofNat 0)))]),(.sl .lost 1 [(Ad [108]),(Ad [69,85,82]),(.sc (.int .i64 (.ofNat 1)))]),Ou]),(.sc (.int .i64 (.ofNat 1))),(.sc (.int .i64 (.ofNat 1)))],none,(.sc (.bool false))⟩
theorem PI:At Tryz.prog Hd.G YR:=Hd.entry (l:=[]) (m:=1000000) Hd.none (by kernel_rfl) (by kernel_rfl)
def Wi:BC:=⟨51,[(.agg [(.sl .lost 1 [(Ad [97]),(Ad [110,117,109,98,101,114]),(.sc (.int .i64 (.ofNat 0)))]),(.sl .lost 1 [(Ad [108]),(Ad [69,85,82]),(.sc (.int .i64 (.ofNat 1)))]),Ou]),(.sc (.int .i64 (.ofNat 1)))],none,(.sl .lost 1 [(.sc (.int .i64 (.ofNat 2)))])⟩
theorem Me:At Tryz.prog Hd.G Wi:=Hd.entry (l:=[WZ,Wk,V9,X4,YR]) (m:=1000000) (Ag.cons Mq (Ag.cons My (Ag.cons Mt (Ag.cons PD (Ag.cons PI Hd.none))))) (by kernel_rfl) (by kernel_rfl)
def cT:BC:=⟨24,[(.agg [(.sl .lost 1 [(Ad [97]),(Ad [110,117,109,98,101,114]),(.sc (.int .i64 (.ofNat 0)))]),(.sl .lost 1 [(Ad [108]),(Ad [69,85,82]),(.sc (.int .i64 (.ofNat 1)))]),Ou]),(.sc (.int .i64 (.ofNat 1))),(.sc (.int .i64 (.ofNat 2)))],none,(.sc (.bool true))⟩
theorem TD:At Tryz.prog Hd.G cT:=Hd.entry (l:=[]) (m:=1000000) Hd.none (by kernel_rfl) (by kernel_rfl)
def hD:BC:=⟨24,[(.agg [(.sl .lost 1 [(Ad [97]),(Ad [110,117,109,98,101,114]),(.sc (.int .i64 (.ofNat 0)))]),(.sl .lost 1 [(Ad [108]),(Ad [69,85,82]),(.sc (.int .i64 (.ofNat 1)))]),Ou]),(.sc (.int .i64 (.ofNat 2))),(.sc (.int .i64 (.ofNat 2)))],none,(.sc (.bool false))⟩
theorem Tn:At Tryz.prog Hd.G hD:=Hd.entry (l:=[]) (m:=1000000) Hd.none (by kernel_rfl) (by kernel_rfl)
def Xe:BC:=⟨51,[(.agg [(.sl .lost 1 [(Ad [97]),(Ad [110,117,109,98,101,114]),(.sc (.int .i64 (.ofNat 0)))]),(.sl .lost 1 [(Ad [108]),(Ad [69,85,82]),(.sc (.int .i64 (.ofNat 1)))]),Ou]),(.sc (.int .i64 (.ofNat 2)))],none,(.sl .lost 2 [(.sc (.int .i64 (.ofNat 0))),(.sc (.int .i64 (.ofNat 1)))])⟩
theorem Mp:At Tryz.prog Hd.G Xe:=Hd.entry (l:=[WZ,Wk,V9,X4,YR,cT,hD]) (m:=1000000) (Ag.cons Mq (Ag.cons My (Ag.cons Mt (Ag.cons PD (Ag.cons PI (Ag.cons TD (Ag.cons Tn Hd.none))))))) (by kernel_rfl) (by kernel_rfl)
def lP:BC:=⟨18,[(.agg [(.sl .lost 1 [(Ad [97]),(Ad [110,117,109,98,101,114]),(.sc (.int .i64 (.ofNat 0)))]),(.sl .lost 1 [(Ad [108]),(Ad [69,85,82]),(.sc (.int .i64 (.ofNat 1)))]),Ou])],none,(.Bh [(.sl .full 0 []),(.sc (.bool false))])⟩
theorem Yj:At Tryz.prog Hd.G lP:=Hd.entry (l:=[UB,Xs,Wi,Xe]) (m:=1000000) (Ag.cons K3 (Ag.cons Mf (Ag.cons Me (Ag.cons Mp Hd.none)))) (by kernel_rfl) (by kernel_rfl)
def kW:BC:=⟨41,[(.agg [(.sc (.int .i64 (.ofNat 5))),(.sc (.int .i64 (.ofNat 0))),(Ad [116,114,117,116,104]),(.sc (.int .i64 (.ofNat 0))),(.sl .full 0 []),(.sl .full 1 [(.sc (.int .i64 (.ofNat 8))),(.sc (.int .i64 (.ofNat 0))),(Ad [116,114,117,116,104]),(.sc (.int .i64 (.ofNat 0))),(.sl .full 0 []),rJ])]),(.agg [(.sc (.int .i64 (.ofNat 5))),(.sc (.int .i64 (.ofNat 0))),(Ad [116,114,117,116,104]),(.sc (.int .i64 (.ofNat 0))),(.sl .full 0 []),(.sl .full 1 [(.sc (.int .i64 (.ofNat 8))),(.sc (.int .i64 (.ofNat 0))),(Ad [116,114,117,116,104]),(.sc (.int .i64 (.ofNat 0))),(.sl .full 0 []),xX])])],none,(.sc (.bool true))⟩
theorem Zz:At Tryz.prog Hd.G kW:=Hd.entry (l:=[]) (m:=1000000) Hd.none (by kernel_rfl) (by kernel_rfl)
def oQ:BC:=⟨24,[(.agg [(.sl .lost 1 [(Ad [97]),(Ad [110,117,109,98,101,114]),(.sc (.int .i64 (.ofNat 0)))]),(.sl .lost 1 [(Ad [108]),(Ad [69,85,82]),(.sc (.int .i64 (.ofNat 1)))]),Ou]),(.sc (.int .i64 (.ofNat 0))),(.sc (.int .i64 (.ofNat 2)))],none,(.sc (.bool true))⟩
theorem Yi:At Tryz.prog Hd.G oQ:=Hd.entry (l:=[]) (m:=1000000) Hd.none (by kernel_rfl) (by kernel_rfl)
def nU:BC:=⟨27,[(.agg [(.sl .lost 1 [(Ad [97]),(Ad [110,117,109,98,101,114]),(.sc (.int .i64 (.ofNat 0)))]),(.sl .lost 1 [(Ad [108]),(Ad [69,85,82]),(.sc (.int .i64 (.ofNat 1)))]),Ou]),(.sc (.int .i64 (.ofNat 2)))],none,(.sl .lost 2 [(.sc (.int .i64 (.ofNat 0))),(.sc (.int .i64 (.ofNat 1)))])⟩
theorem Yp:At Tryz.prog Hd.G nU:=Hd.entry (l:=[UB,Xs,Wi,Xe]) (m:=1000000) (Ag.cons K3 (Ag.cons Mf (Ag.cons Me (Ag.cons Mp Hd.none)))) (by kernel_rfl) (by kernel_rfl)
def m3:BC:=⟨27,[(.agg [(.sl .lost 1 [(Ad [97]),(Ad [110,117,109,98,101,114]),(.sc (.int .i64 (.ofNat 0)))]),(.sl .lost 1 [(Ad [108]),(Ad [69,85,82]),(.sc (.int .i64 (.ofNat 1)))]),Ou]),(.sc (.int .i64 (.ofNat 1)))],none,(.sl .lost 1 [(.sc (.int .i64 (.ofNat 2)))])⟩
theorem Yv:At Tryz.prog Hd.G m3:=Hd.entry (l:=[UB,Xs,Wi,Xe]) (m:=1000000) (Ag.cons K3 (Ag.cons Mf (Ag.cons Me (Ag.cons Mp Hd.none)))) (by kernel_rfl) (by kernel_rfl)
def m8:BC:=⟨27,[(.agg [(.sl .lost 1 [(Ad [97]),(Ad [110,117,109,98,101,114]),(.sc (.int .i64 (.ofNat 0)))]),(.sl .lost 1 [(Ad [108]),(Ad [69,85,82]),(.sc (.int .i64 (.ofNat 1)))]),Ou]),(.sc (.int .i64 (.ofNat 0)))],none,(.sl .lost 1 [(.sc (.int .i64 (.ofNat 1)))])⟩
theorem Z2:At Tryz.prog Hd.G m8:=Hd.entry (l:=[UB,Xs,Wi,Xe]) (m:=1000000) (Ag.cons K3 (Ag.cons Mf (Ag.cons Me (Ag.cons Mp Hd.none)))) (by kernel_rfl) (by kernel_rfl)
def tT:BC:=⟨11,[],none,(.sc (.bool true))⟩
theorem Yu:At Tryz.prog Hd.G tT:=Hd.entry (l:=[nD,lS,oV,kX,n6,oF,lU,m7,UB,WZ,Wk,V9,X4,YR,cT,hD,lP,kW,oQ,nU,m3,m8]) (m:=1000000) (Ag.cons YW (Ag.cons Y0 (Ag.cons YB (Ag.cons XK (Ag.cons Zl (Ag.cons ZV (Ag.cons ZX (Ag.cons Yt (Ag.cons K3 (Ag.cons Mq (Ag.cons My (Ag.cons Mt (Ag.cons PD (Ag.cons PI (Ag.cons TD (Ag.cons Tn (Ag.cons Yj (Ag.cons Zz (Ag.cons Yi (Ag.cons Yp (Ag.cons Yv (Ag.cons Z2 Hd.none)))))))))))))))))))))) (by kernel_rfl) (by kernel_rfl)
end Go.Proofs.YtnijkdknnmgoeaaGreat
namespace Go.Proofs.YtnijkdknnmgoeaaGreat
open AI Go
namespace Mo
set_option maxRecDepth 100000
set_option maxHeartbeats 4000000
noncomputable def IF:Option Bool:=some true
theorem Oh {yR:Bool} (h:IF=some yR):Pure P G 11 [] (.sc (.bool yR)):=by
 cases h
 exact Yu
noncomputable def B9:Code:=Bo Tryz.f9
theorem b9:Tryz.f9.body=some B9:=by kernel_rfl
noncomputable def D0  (n:Nd) (Bf:Nd):Option Bool:=(IF).bind fun y1=>(EU n).bind fun y2=>cond y2 ((EU Bf).bind fun y3=>cond y3 (cond (CN Bf.kind 4) ((Ch n).bind fun (y4a,y4b)=>Hy (([]:List Nd).length+n.kids.length) (cond (CN ((n.kids.length:Nat):Int) 0) (Hy (0+1) ((Ch (⟨n.kind,n.name,n.unit,n.n,n.fr,n.to,n.known,n.tab,([]++[Bf]),n.att⟩:Nd)).bind fun (y7a,y7b)=>cond (Fu 0 (BU ((y4b.length:Nat):Int) ((y7b.length:Nat):Int))) (some y1) (cond (CN ((y7a.arts.length:Nat):Int) (BU ((y4a.arts.length:Nat):Int) 1)) ((FZ y7a.arts 0 ((y4a.arts.length:Nat):Int)).bind fun l8=>cond y1 ((Cs (⟨y7a.facts,y7a.lines,l8⟩:Co) y4a).bind fun y9=>some y9) (some false)) (some false)))) (Hy ((([]:List Nd)++n.kids).length+1) ((Ch (⟨n.kind,n.name,n.unit,n.n,n.fr,n.to,n.known,n.tab,((([]:List Nd)++n.kids)++[Bf]),n.att⟩:Nd)).bind fun (y11a,y11b)=>cond (Fu 0 (BU ((y4b.length:Nat):Int) ((y11b.length:Nat):Int))) (some y1) (cond (CN ((y11a.arts.length:Nat):Int) (BU ((y4a.arts.length:Nat):Int) 1)) ((FZ y11a.arts 0 ((y4a.arts.length:Nat):Int)).bind fun l12=>cond y1 ((Cs (⟨y11a.facts,y11a.lines,l12⟩:Co) y4a).bind fun y13=>some y13) (some false)) (some false)))))) (some y1)) (some y1)) (some y1)
theorem IR   {n:Nd} {Bf:Nd} {yR:Bool} (h:D0  n Bf=some yR):Pure P G 9 [.agg (Bq n),.agg (Bq Bf)] (.sc (.bool yR)):=by
 unfold D0 at h
 refine DD Hd.mixed Hd.Ab (Ba Tryz.func9 b9 ?_) (Bi (Au.D1 n) (Bi (Au.D1 Bf) rfl)) rfl
 revert h
 refine AB fun y1 hy1=>?_
 refine AB fun y2 hy2=>?_
 let o1:List (PC P G):=[Bu (Oh hy1),Bu (IU hy2)]
 refine Ai (fun hv=>?_) fun hv=>?_
 subst hv
 refine AB fun y3 hy3=>?_
 let o2:List (PC P G):=o1++[Bu (IU hy3)]
 refine Ai (fun hv=>?_) fun hv=>?_
 subst hv
 refine Ai (fun hb1=>?_) fun hb1=>?_
 refine AB ?_
 rintro ⟨y4a,y4b⟩ hy4
 dsimp only
 refine GJ fun hl5=>?_
 let o3:List (PC P G):=o2++[pn hb1,Bu (F7 hy4),kI]
 refine Ai (fun hb2=>?_) fun hb2=>?_
 refine GJ fun hl6=>?_
 refine AB ?_
 rintro ⟨y7a,y7b⟩ hy7
 dsimp only
 let o4:List (PC P G):=o3++[tG (rY .full ([]:List Nd) n.kids (o:=.lost) ⟨[(3,.cells (Bq n)),(2,.cells (W3 y4a)),(1,.cells (Bq Bf)),(0,.cells (Bq n))],4,[],0⟩ (by have:=Fk hb2;omega) hl5),JI (bE .full [] [Bf] (o:=.full) (n:=1) (ns:=(Bq Bf)) (Au.wn [Bf] (.r (.r (.r (.r (.r (.r (.r (.r (.r (.r (.r .nil)))))))))))) rfl rfl (by simp) (by simp)),Et (args:=[.agg [.sc (.int .i64 n.kind),.sc (.string n.name),.sc (.string n.unit),.sc (.int .i64 n.n),.sc (.int .i64 n.fr),.sc (.int .i64 n.to),.sc (.int .i64 n.known),.sc (.int .i64 n.tab.den),.sl .lost n.tab.ps.length (rows EC n.tab.ps),.sl (.row 0 11) (([]++[Bf]).length) (B5 ([]++[Bf])),.sc (.int .i64 n.att)]]) (.g (.r (.r (.r (.r (.r (.r (.r (.r (.r (.s rfl (.r .nil))))))))))) .nil) (F7 hy7),pk]
 refine Ai (fun hb3=>?_) fun hb3=>?_
 intro h
 have hE:=Option.some.inj h
 subst hE
 exact rS (Ae 300 (o4++[pb hb3])) (by kernel_rfl)
 refine Ai (fun hb4=>?_) fun hb4=>?_
 refine AB fun l8 hl8=>?_
 refine Ai (fun hv=>?_) fun hv=>?_
 subst hv
 refine AB fun y9 hy9=>?_
 intro h
 have hE:=Option.some.inj h
 subst hE
 exact rS (Ae 300 (o4++[pb hb3,pk,pn hb4,KA (Mi hl8),Bu (Gu hy9)])) (by kernel_rfl)
 subst hv
 rintro ⟨⟩
 exact rS (Ae 300 (o4++[pb hb3,pk,pn hb4,KA (Mi hl8)])) (by kernel_rfl)
 rintro ⟨⟩
 exact rS (Ae 300 (o4++[pb hb3,pk,pn hb4])) (by kernel_rfl)
 refine GJ fun hl10=>?_
 refine AB ?_
 rintro ⟨y11a,y11b⟩ hy11
 dsimp only
 let o5:List (PC P G):=o3++[JI (mO .full ([]:List Nd) n.kids (o:=.lost) (by have:=W0 hb2;omega) hl5),JI (bE (.row 0 11) (([]:List Nd)++n.kids) [Bf] (o:=.full) (n:=1) (ns:=(Bq Bf)) (Au.wn [Bf] (.r (.r (.r (.r (.r (.r (.r (.r (.r (.r (.r .nil)))))))))))) rfl rfl (by simp) (by simpa using hl10)),Et (args:=[.agg [.sc (.int .i64 n.kind),.sc (.string n.name),.sc (.string n.unit),.sc (.int .i64 n.n),.sc (.int .i64 n.fr),.sc (.int .i64 n.to),.sc (.int .i64 n.known),.sc (.int .i64 n.tab.den),.sl .lost n.tab.ps.length (rows EC n.tab.ps),.sl (.row 0 11) (((([]:List Nd)++n.kids)++[Bf]).length) (B5 ((([]:List Nd)++n.kids)++[Bf])),.sc (.int .i64 n.att)]]) (.g (.r (.r (.r (.r (.r (.r (.r (.r (.r (.s rfl (.r .nil))))))))))) .nil) (F7 hy11),pk]
 refine Ai (fun hb5=>?_) fun hb5=>?_
 intro h
 have hE:=Option.some.inj h
 subst hE
 exact rS (Ae 300 (o5++[pb hb5])) (by kernel_rfl)
 refine Ai (fun hb6=>?_) fun hb6=>?_
 refine AB fun l12 hl12=>?_
 refine Ai (fun hv=>?_) fun hv=>?_
 subst hv
 refine AB fun y13 hy13=>?_
 intro h
 have hE:=Option.some.inj h
 subst hE
 exact rS (Ae 300 (o5++[pb hb5,pk,pn hb6,KA (Mi hl12),Bu (Gu hy13)])) (by kernel_rfl)
 subst hv
 rintro ⟨⟩
 exact rS (Ae 300 (o5++[pb hb5,pk,pn hb6,KA (Mi hl12)])) (by kernel_rfl)
 rintro ⟨⟩
 exact rS (Ae 300 (o5++[pb hb5,pk,pn hb6])) (by kernel_rfl)
 intro h
 have hE:=Option.some.inj h
 subst hE
 exact rS (Ae 300 (o2++[pn hb1])) (by kernel_rfl)
 subst hv
 intro h
 have hE:=Option.some.inj h
 subst hE
 exact rS (Ae 300 o2) (by kernel_rfl)
 subst hv
 intro h
 have hE:=Option.some.inj h
 subst hE
 exact rS (Ae 300 o1) (by kernel_rfl)
end Mo
end Go.Proofs.YtnijkdknnmgoeaaGreat
namespace Go.Proofs.YtnijkdknnmgoeaaGreat
open AI Go
namespace Mo
set_option maxRecDepth 100000
set_option maxHeartbeats 4000000
theorem MU (n:Nd):(BJ n).2.length≤20:=by
 unfold BJ
 by_cases h1:n.kind=1∧Re n
 · rw [Af h1]
   by_cases h2:FY n=[]
   · rw [Af h2]
     by_cases h3:(Hq (Gv n.kids) n.kids).1=[]
     · rw [Af h3];exact Nat.zero_le _
     · rw [Ac h3];simp only [List.length_take];omega
   · rw [Ac h2]
     unfold FY
     rw [Af h1]
     exact Gb _ _
 · rw [Ac h1];simp
theorem SV {n m a:Nd} (ha:a.kind=4) (hm:m.kids=n.kids++[a]) :
   (cond (Fu 0 (BU (((BJ n).2.length:Nat):Int) (((BJ m).2.length:Nat):Int))) (some true) (cond (CN (((BJ m).1.arts.length:Nat):Int) (BU (((BJ n).1.arts.length:Nat):Int) 1)) ((FZ (BJ m).1.arts 0 (((BJ n).1.arts.length:Nat):Int)).bind fun l8=>cond true ((Cs (⟨(BJ m).1.facts,(BJ m).1.lines,l8⟩:Co) (BJ n).1).bind fun y9=>some y9) (some false)) (some false)))=some true:=by
 have l1:=MU n
 have l2:=MU m
 rw [CT (by omega),ZT]
 by_cases h:(0:Int) < (((BJ n).2.length:Nat):Int)+(((BJ m).2.length:Nat):Int)
 · rw [Af h]
 rw [Ac h]
 have d1:(BJ n).2=[]:=List.eq_nil_of_length_eq_zero (by omega)
 have d2:(BJ m).2=[]:=List.eq_nil_of_length_eq_zero (by omega)
 obtain ⟨e1,e2,x,e3⟩:=eR ha hm d1 d2
 obtain ⟨s1,s2⟩:=Sv d1
 rw [e1,e2,e3,CT (by omega),H2,Af (by simp only [List.length_append,List.length_singleton];omega)]
 have hsub:FZ ((BJ n).1.arts++[x]) 0 (((BJ n).1.arts.length:Nat):Int)=some (BJ n).1.arts:=by
   unfold FZ
   rw [if_pos ⟨by omega,by omega,by simp only [List.length_append,List.length_singleton];omega⟩]
   simp
 rw [hsub,Option.bind_some,cond_true]
 generalize BJ n=p at *
 obtain ⟨⟨f,l,r⟩,d⟩:=p
 rw [s1,Option.bind_some]
theorem Md {n Bf:Nd} (hn:E1 n) (ha:E1 Bf):D0 n Bf=some true:=by
 rw [D0,show IF=some true from rfl,Wc hn,Wc ha]
 simp only [Option.bind_some,D5]
 by_cases t1:((DB n:Nat):Int)≤2100∧((JM n:Nat):Int)≤100
 rotate_left
 · rw [Ac t1]
 rw [Af t1]
 by_cases t2:((DB Bf:Nat):Int)≤2100∧((JM Bf:Nat):Int)≤100
 rotate_left
 · rw [Ac t2]
 rw [Af t2]
 simp only [H2 (Bf.kind)]
 by_cases k4:Bf.kind=4
 rotate_left
 · rw [Ac k4]
 rw [Af k4,On hn (by omega)]
 simp only [Option.bind_some]
 have hsz:=Cm n
 have hl:=FI n.kids
 obtain ⟨p1,p2,p3⟩:=(M6 n).1 hn
 rw [EA (by simp only [List.length_nil];omega)]
 simp only [List.nil_append]
 have hb:∀ l:List Nd,l=n.kids→Ch (⟨n.kind,n.name,n.unit,n.n,n.fr,n.to,n.known,n.tab,l++[Bf],n.att⟩:Nd)=some (BJ ⟨n.kind,n.name,n.unit,n.n,n.fr,n.to,n.known,n.tab,l++[Bf],n.att⟩):=fun l e=>by
   subst e
   refine On ((M6 _).2 ⟨p1,by simp only [List.length_append,List.length_singleton];omega,fun y hy=>?_⟩) ?_
   · simp only [List.mem_append,List.mem_singleton] at hy
     rcases hy with hy | rfl
     · exact p3 y hy
     · exact ha
   · rw [Cm]
     simp only [NB,Er]
     omega
 rw [H2]
 by_cases k0:((n.kids.length:Nat):Int)=0
 · have hk:n.kids=[]:=List.eq_nil_of_length_eq_zero (by omega)
   have hb0:=hb [] hk.symm
   rw [List.nil_append] at hb0
   rw [Af k0,EA (by simp),hb0,Option.bind_some]
   exact SV (n:=n) (m:=⟨n.kind,n.name,n.unit,n.n,n.fr,n.to,n.known,n.tab,[Bf],n.att⟩) k4 (by rw [hk];rfl)
 · rw [Ac k0,EA (by omega),hb n.kids rfl,Option.bind_some]
   exact SV (n:=n) (m:=⟨n.kind,n.name,n.unit,n.n,n.fr,n.to,n.known,n.tab,n.kids++[Bf],n.att⟩) k4 rfl
end Mo
end Go.Proofs.YtnijkdknnmgoeaaGreat
